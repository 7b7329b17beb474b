/- What holds of a flash chip's state whatever is done; what power leaves of it; the laws' bytes: plain. -/
import Derived.Test.YtpkgpcolngoicaaAx1
import Derived.Test.YtpkgpcolngoicaaFCut
set_option linter.unusedVariables false
set_option linter.unusedSimpArgs false
namespace Go.Proofs.Ytpkgpcolngoicaa.Given
open Go.RowKit Go.Proofs.Ytpkgpcolngoicaa.All Go.Proofs.Ytpkgpcolngoicaa.Sep Go.Proofs.YtpkgpcolngoicaaW.PrintWords Go.Proofs.YtpkgpcolngoicaaW.PrintLast Go.Proofs.YtpkgpcolngoicaaW.PrintMore

def Bytes (l : List Int) : Prop := ∀ x ∈ l, 0 ≤ x ∧ x ≤ 255
theorem bytes_of_wf {l : List Int} (h : ∀ x ∈ l, (Lit.int .u8 x).wf = true) : Bytes l := fun x hx => by
  have := h x hx
  simp [Lit.wf, IntKind.min, IntKind.max, IntKind.signed, IntKind.bits] at this
  omega
theorem rd_byte {l : List Int} (h : Bytes l) (i : Int) : 0 ≤ rd l i ∧ rd l i ≤ 255 := by
  unfold rd
  rw [List.getD_eq_getElem?_getD]
  cases hx : l[i.toNat]? with
  | none => show (0 : Int) ≤ 0 ∧ (0 : Int) ≤ 255; omega
  | some x => exact h x (List.mem_of_getElem? hx)
theorem set_bytes {l : List Int} (h : Bytes l) (i : Nat) {x : Int} (hx : 0 ≤ x ∧ x ≤ 255) : Bytes (l.set i x) := fun y hy => by
  rcases List.mem_or_eq_of_mem_set hy with hy | rfl
  · exact h y hy
  · exact hx
structure FInv (n : Int) (s : FS) : Prop where
  len : (s.data.length : Int) = 256 * n
  good : Good s
  idle : s.left = 0 ↔ s.wk = 0
  kind : s.wk = 0 ∧ s.wm = 0 ∨ s.wk = 1 ∧ s.wm = 1 ∨ s.wk = 2
  bytes : Bytes s.data
  val : 0 ≤ s.wv ∧ s.wv ≤ 255
section
variable {n : Int} {s : FS}
theorem FInv.of (h : FInv n s) (s' : FS) (h0 : s'.data = s.data) (h1 : s'.left = s.left) (h2 : s'.wk = s.wk) (h3 : s'.wf = s.wf) (h4 : s'.wm = s.wm) (h5 : s'.wv = s.wv) : FInv n s' := by
  obtain ⟨a, ⟨g0, g1, g2, g3, g4⟩, c, d, e, f⟩ := h
  refine ⟨by rw [h0]; exact a, ⟨by rw [h1]; exact g0, by rw [h1]; exact g1, by rw [h3]; exact g2, by rw [h4]; exact g3, by rw [h0, h3, h4]; exact g4⟩, by rw [h1, h2]; exact c, by rw [h2, h4]; exact d, by rw [h0]; exact e, by rw [h5]; exact f⟩
theorem FInv.begin_ (h : FInv n s) (s' : FS) (hd : s'.data = s.data) (k f m v x : Int) (hk : k = 1 ∧ m = 1 ∨ k = 2) (hf : 0 ≤ f) (hm : 0 ≤ m) (hfm : f + m ≤ s.data.length) (hv : 0 ≤ v ∧ v ≤ 255) (hx : 0 < x ∧ x ≤ 200) : FInv n (beginS s' k f m v x) := by
  obtain ⟨a, _, c, d, e, _⟩ := h
  refine ⟨by show (s'.data.length : Int) = _; rw [hd]; exact a, ⟨by show 0 ≤ x; omega, by show x ≤ 200; omega, hf, hm, by show f + m ≤ (s'.data.length : Int); rw [hd]; exact hfm⟩, ⟨fun h0 => by have : x = 0 := h0; omega, fun h0 => by have : k = 0 := h0; omega⟩, ?_, by show Bytes s'.data; rw [hd]; exact e, hv⟩
  rcases hk with ⟨rfl, rfl⟩ | rfl
  · exact .inr (.inl ⟨rfl, rfl⟩)
  · exact .inr (.inr rfl)
theorem inv_new {n : Int} {xs : List Int} (hl : (xs.length : Int) = 256 * n) (hb : Bytes xs) : FInv n (newS n xs) :=
  ⟨hl, ⟨Int.le_refl _, by show (0 : Int) ≤ 200; omega, Int.le_refl _, Int.le_refl _, by show (0 : Int) + 0 ≤ _; omega⟩, ⟨fun _ => rfl, fun _ => rfl⟩, .inl ⟨rfl, rfl⟩, hb, by show (0 : Int) ≤ 0 ∧ (0 : Int) ≤ 255; omega⟩
theorem inv_write (h : FInv n s) (hn : 1 ≤ n) (a v : Int) (hv : 0 ≤ v ∧ v ≤ 255) : FInv n (writeS s a v) := by
  unfold writeS
  split
  · exact h
  · have hl := h.len
    obtain ⟨hp0, hp1⟩ := place_bd s.data a (by omega)
    generalize place s.data a = p at *
    unfold takeS
    split
    · exact h.of _ rfl rfl rfl rfl rfl rfl
    · unfold runS
      split
      · split <;> exact h.of _ rfl rfl rfl rfl rfl rfl
      · split <;> exact h.of _ rfl rfl rfl rfl rfl rfl
      · unfold cmdS
        repeat' split
        all_goals exact h.of _ rfl rfl rfl rfl rfl rfl
      · unfold eraseS
        split
        · exact h.begin_ (restS s) rfl 2 (p / 256 * 256) 256 0 100 (.inr rfl) (by omega) (by omega) (by omega) (by omega) (by omega)
        · split
          · exact h.begin_ (restS s) rfl 2 0 (s.data.length : Int) 0 200 (.inr rfl) (by omega) (by omega) (by omega) (by omega) (by omega)
          · exact h.of _ rfl rfl rfl rfl rfl rfl
      · exact h.begin_ (restS s) rfl 1 p 1 v 10 (.inl ⟨rfl, rfl⟩) hp0 (by omega) (by omega) hv (by omega)
theorem wrote_bytes (h : Bytes s.data) (hv : 0 ≤ s.wv ∧ s.wv ≤ 255) (k : Nat) : Bytes (wrote s k) := by
  induction k with
  | zero => exact h
  | succ k ih =>
    refine set_bytes ih _ ?_
    unfold wroteV
    split
    · exact Cut.and_byte (rd_byte ih _) hv
    · omega
theorem inv_tick (h : FInv n s) : FInv n (tickS s) := by
  obtain ⟨a, ⟨g0, g1, g2, g3, g4⟩, c, d, e, f⟩ := h
  unfold tickS
  split
  · exact ⟨a, ⟨g0, g1, g2, g3, g4⟩, c, d, e, f⟩
  · split
    · refine ⟨a, ⟨by show 0 ≤ s.left - 1; omega, by show s.left - 1 ≤ 200; omega, g2, g3, g4⟩, ⟨fun h => ?_, fun h => ?_⟩, d, e, f⟩
      · have : s.left - 1 = 0 := h
        omega
      · have : s.left = 0 := c.2 h
        omega
    · refine ⟨by show ((wrote s _).length : Int) = _; rw [wrote_len]; exact a, ⟨Int.le_refl _, by show (0 : Int) ≤ 200; omega, Int.le_refl _, Int.le_refl _, by show (0 : Int) + 0 ≤ _; omega⟩, ⟨fun _ => rfl, fun _ => rfl⟩, .inl ⟨rfl, rfl⟩, wrote_bytes e f _, by show (0 : Int) ≤ 0 ∧ (0 : Int) ≤ 255; omega⟩
theorem rowAt_mem {a : Int} {m : Nat} {x : Int} (h : x ∈ rowAt a m) (ha : 0 ≤ a) (hm : a + m ≤ 100000) : a ≤ x ∧ x < a + m := by
  unfold rowAt upto at h
  obtain ⟨k, hk, rfl⟩ := List.mem_map.1 h
  rw [List.mem_range] at hk
  rw [Cut.w64 _ (by omega) (by omega)]
  omega
theorem cut_len (s : FS) (pick : List Int) : (cutS s pick).length = s.data.length := by
  unfold cutS
  split
  · split
    · exact Cut.prog_len _ _ _
    · rfl
  · exact cells_len _ _ _
theorem cut_nil (h : FInv n s) : cutS s [] = s.data := by
  unfold cutS
  split
  · exact if_neg (by simp)
  · unfold cells
    rw [List.zip_nil_right]
    rfl
/-- A place that is apart is one that the chip is busy with. -/
theorem cut_apart (h : FInv n s) (hn : n ≤ 4) (pick : List Int) (hp : Bytes pick) (x : Int) (hx : x ∈ Cut.apart s.data (cutS s pick)) :
    s.wf ≤ x ∧ x < s.wf + s.wm ∧ x < s.data.length ∧ 0 ≤ x ∧ (s.wk = 1 → Go.bits .and .u8 (rd (cutS s pick) x) (rd s.data x) = rd (cutS s pick) x) := by
  obtain ⟨hl, hg, _, hk, hb, hv⟩ := h
  obtain ⟨_, _, g2, g3, g4⟩ := hg
  unfold Cut.apart at hx
  rw [cut_len, Nat.max_self] at hx
  obtain ⟨i, hi, rfl⟩ := List.mem_map.1 hx
  rw [List.mem_filter, List.mem_range] at hi
  obtain ⟨hi, he⟩ := hi
  have hne : rd s.data i ≠ rd (cutS s pick) i := fun e => by
    have : Cut.eqAt s.data (cutS s pick) i = true := decide_eq_true ⟨hi, by rw [cut_len]; exact hi, e⟩
    rw [this] at he
    exact absurd he (by decide)
  by_cases h1 : s.wk = 1
  · have e1 : cutS s pick = if 0 < (pick.length : Int) then Cut.prog s.data s.wf (rd pick 0) else s.data := if_pos h1
    rw [e1] at hne ⊢
    split at hne
    · rename_i h2
      rw [if_pos h2]
      rw [Cut.prog_at _ _ _ i hi] at hne ⊢
      split at hne
      · rename_i h3
        have hm : s.wm = 1 := by omega
        rw [if_pos h3]
        exact ⟨by omega, by omega, by omega, by omega, fun _ => Cut.and_left (rd_byte hb _) (rd_byte hp _)⟩
      · exact absurd rfl hne
    · exact absurd rfl hne
  · have e1 : cutS s pick = cells s.data (rowAt s.wf s.wm.toNat) pick := if_neg h1
    have : (i : Int) ∈ rowAt s.wf s.wm.toNat := by
      rw [e1, Cut.cells_at _ _ _ i hi] at hne
      refine Decidable.byContradiction fun hn => hne ?_
      rw [Cut.look_out]
      intro q hq e
      exact hn (e ▸ Cut.mem_zip_fst hq)
    have hb := rowAt_mem this g2 (by omega)
    exact ⟨by omega, by omega, by omega, by omega, fun h => absurd h h1⟩
theorem cut_apart_len (s : FS) (pick : List Int) (h : s.data.length ≤ 100000) : (Cut.apart s.data (cutS s pick)).length ≤ 100000 := by
  have := Cut.apart_len s.data (cutS s pick)
  rw [cut_len, Nat.max_self] at this
  omega
theorem apart_walk_f (s : FS) (pick : List Int) (h : s.data.length ≤ 100000) : cut_Apart.f (s.data.length + 1) s.data (cutS s pick) = some (Cut.apart s.data (cutS s pick)) :=
  Cut.apart_f _ _ h (by rw [cut_len]; exact h) _ (by rw [cut_len, Nat.max_self]; exact Nat.le_refl _)
end
end Go.Proofs.Ytpkgpcolngoicaa.Given
namespace Go.Proofs.Ytpkgpcolngoicaa.Given
open Go.RowKit Go.Proofs.Ytpkgpcolngoicaa.All Go.Proofs.Ytpkgpcolngoicaa.Sep Go.Proofs.YtpkgpcolngoicaaW.PrintWords Go.Proofs.YtpkgpcolngoicaaW.PrintLast Go.Proofs.YtpkgpcolngoicaaW.PrintMore

theorem fill_bytes_l0 {b : List Int} (hb : Bytes b) (k : Nat) : ∀ (n i : Int) (out r : List Int), Bytes out → keepsakeref10_Fill.l0 k b n out i = some r → Bytes r := by
  induction k with
  | zero => intro n i out r _ h; cases h
  | succ k ih =>
    intro n i out r ho h
    rw [keepsakeref10_Fill.l0] at h
    repeat' split at h
    all_goals first
      | exact ih _ _ _ _ (set_bytes ho _ (rd_byte hb _)) h
      | (injection h with h; subst h; exact ho)
      | exact absurd h (by simp)
theorem fill_bytes {b : List Int} (hb : Bytes b) (m : Int) : Bytes (fillOf b m) := by
  unfold fillOf
  cases h : keepsakeref10_Fill.f (m.toNat + 1) b m with
  | none => intro x hx; cases hx
  | some r =>
    show Bytes r
    unfold keepsakeref10_Fill.f at h
    repeat' split at h
    all_goals first
      | exact fill_bytes_l0 hb _ _ _ _ _ (fun x hx => by have := List.eq_of_mem_replicate hx; omega) h
      | exact absurd h (by simp)
end Go.Proofs.Ytpkgpcolngoicaa.Given
