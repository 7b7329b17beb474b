/- The document's flash chip: made; what power leaves. -/
import Derived.Test.YtpkgpcolngoicaaAx2
import Derived.Test.YtpkgpcolngoicaaAx1
import Derived.Test.YtpkgpcolngoicaaFRTick
set_option linter.unusedVariables false
set_option linter.unusedSimpArgs false
namespace Go.Proofs.Ytpkgpcolngoicaa.Given
open Go.RowKit Go.Proofs.Ytpkgpcolngoicaa.All Go.Proofs.Ytpkgpcolngoicaa.Sep Go.Proofs.YtpkgpcolngoicaaW.PrintWords Go.Proofs.YtpkgpcolngoicaaW.PrintLast Go.Proofs.YtpkgpcolngoicaaW.PrintMore
attribute [local go_sem] max2_int min2_int max_two min_two

def rnewS (n : Int) (xs : List Int) : RS := ⟨n, xs, [], false, 0, 0, 0, 0, 0, 0⟩
theorem rnew_held {w0 w W w1 : World} {ts : List Thing} (h : Held w0 W ts) {v : Value} {xs : List Int} (n : Int) (hR : (Kd.int .u8).R 5 w1 W.heap.size (fun _ => True) v xs) (hb : Below W.heap.size W w1) :
    RHeld w0 (w1.alloc (.cells (rcells (rnewS n xs) v (.slice none 0 0)) rT)) w1.heap.size (rnewS n xs) ts :=
  ⟨v, .slice none 0 0, (row_nil ((h.row_new hR hb).box_new (rcells (rnewS n xs) v (.slice none 0 0)) rT)).swap.perm (List.Perm.cons _ (.swap _ _ _))⟩
set_option maxHeartbeats 1600000 in
theorem rnew_walk {w0 w : World} {ts : List Thing} (A : Option Addr) (c : Nat) (n : Int) (xs : List Int) (h : Held w0 w ts) (hr : (Kd.int .u8).C w A xs.length xs) (hc : xs.length ≤ c) (h0 : 1 ≤ n) (h1 : n ≤ 64) (hl : (xs.length : Int) = 256 * n) :
    Calls Try.prog 28 #[.int .i64 n, .slice A xs.length c] w fun e w' => ∃ r, e = .returned (ptr r) ∧ RHeld w0 w' r (rnewS n xs) ts := by
  have HH := Aside0.mk h
  have HR := Aside0.mk hr
  have hS := fun w => ref03_walk n w
  have e3 : (if n < 0 then 0 else if n > 64 then 0 else 256 * n) = (xs.length : Int) := by rw [if_neg (by omega), if_neg (by omega)]; exact hl.symm
  rw [e3] at hS
  have HS := Lib.hid hS
  have e2 : ((xs.length : Int) != (xs.length : Int)) = false := by simp
  have hle : xs.length ≤ 100000 := by omega
  have hNew : ∀ W w1 v, Held w0 W ts → (Kd.int .u8).R 5 w1 W.heap.size (fun _ => True) v xs → Below W.heap.size W w1 → RHeld w0 (w1.alloc (.cells (rcells (rnewS n xs) v (.slice none 0 0)) rT)) w1.heap.size (rnewS n xs) ts := fun W w1 v h hR hb => rnew_held (w := w) h n hR hb
  have HNew := Lib.hid hNew
  have HRL : Hid (∀ v, rcells (rnewS n xs) v (.slice none 0 0) = #[.int .i64 n, v, .slice none 0 0, .bool false, .int .i64 0, .int .i64 0, .int .i64 0, .int .i64 0, .int .u8 0, .int .i64 0]) := Lib.hid (fun v => rfl)
  clear h hr hS e3 hl hNew
  go_enter Try.func28, Try.ntmps28
  go_wp2_with (first
    | (go_at_call 26; refine (HS.out _).mono ?_; rintro e w1 ⟨rfl, hd⟩; have HC := Aside0.mk (HH.out.below hd.below); have HRC := Aside0.mk (Kd.C_below HR.out hd.below); clear hd)
    | (at_builtin; refine Kd.R_append_rows (Kd.int .u8) (w0 := w1) w1.heap.size rfl (.tmp 19) (.tmp 20) 22 5 (.int .u8 0) 1 rfl Try.underlying22 infoB rfl (by decide) (by omega) (.slice (some ⟨w1.heap.size, 0, none⟩) 0 0) ([] : List Int) xs _ _ _ (fun _ => True) (fun _ => False) rfl rfl ?aO ?aR (fun _ _ h => h) (fun _ h => h.elim) ?aF ?aB ?aS ?aL ?_; (case aR => exact Kd.C_alloc HRC.out _); (case aB => exact (Below.refl _ _).alloc (Nat.le_refl _) _); (case aF => exact (fun _ _ => trivial)); (case aO => exact Kd.R_of_own (World.ownsRow_lit w1 #[] 0 (Nat.le_refl _) (by decide) rfl) (fun _ _ => trivial)); (case aS => simp); (case aL => simp; omega); intro v1 w2 ho hb hg hat; obtain ⟨A1, c1, rfl⟩ := Kd.R_slice ho; have HO := Aside0.mk (HNew.out _ _ _ HC.out ho hb); rw [HRL.out] at HO; clear ho hb hg hat))
  go_ret
  exact ⟨_, rfl, HO.out⟩
def cutR (s : RS) (pick : List Int) : List Int :=
  if s.wk = 1 ∧ 0 < (pick.length : Int) then Cut.prog s.data s.wf (rd pick 0) else if s.wk = 2 then cells s.data (rowAt s.wf s.wm.toNat) pick else s.data
/-- What is made, and held, beside the document's chip. -/
def RMade (w0 : World) (xs : List Int) (r : Nat) (s : RS) (ts : List Thing) (e : Ending) (w' : World) : Prop := ∃ v, e = .returned v ∧ RHeld w0 w' r s (dRow v xs :: ts)
theorem rheld_new {w0 w w1 : World} {ts : List Thing} {r : Nat} {s : RS} (h : RHeld w0 w r s ts) {v : Value} {ys : List Int} (hR : (Kd.int .u8).R 5 w1 w.heap.size (fun _ => True) v ys) (hb : Below w.heap.size w w1) : RHeld w0 w1 r s (dRow v ys :: ts) := by
  obtain ⟨dv, sv, h⟩ := h
  exact ⟨dv, sv, (h.row_new hR hb).swap.perm (List.Perm.cons _ ((List.Perm.swap _ _ _).trans (List.Perm.cons _ (.swap _ _ _))))⟩
theorem RHeld.drew {w0 w : World} {ts : List Thing} {r : Nat} {s : RS} (h : RHeld w0 w r s ts) : RHeld w0 w.drew r s ts := by
  obtain ⟨dv, sv, h⟩ := h
  exact ⟨dv, sv, h.drew⟩
theorem RHeld.below {w0 w w' : World} {ts : List Thing} {r : Nat} {s : RS} (h : RHeld w0 w r s ts) (hb : Below w.heap.size w w') : RHeld w0 w' r s ts := by
  obtain ⟨dv, sv, h⟩ := h
  exact ⟨dv, sv, h.below hb⟩
theorem RHeld.bel {w0 w : World} {ts : List Thing} {r : Nat} {s : RS} (h : RHeld w0 w r s ts) : Below w0.heap.size w0 w := by
  obtain ⟨dv, sv, h⟩ := h
  exact h.bel
set_option maxHeartbeats 3200000 in
theorem rcut_walk {w0 w : World} {ts : List Thing} {r : Nat} {s : RS} (h : RHeld w0 w r s ts) (A2 : Option Addr) (c2 : Nat) (pick : List Int) (hp : (Kd.int .u8).C w A2 pick.length pick) (hc2 : pick.length ≤ c2) (hbp : Bytes pick) (hpl : pick.length ≤ 1100) (hd : s.data.length ≤ 1100) (hb : Bytes s.data) :
    Calls Try.prog 33 #[ptr r, .slice A2 pick.length c2] w (RMade w0 (cutR s pick) r s ts) := by
  have HH := Aside0.mk h
  obtain ⟨A, c, sv, h, hc, hC⟩ := rlen h
  have c1 := rcell h 1 (.slice A s.data.length c) rfl
  have c5 := rcell h 5 (.int .i64 s.wk) rfl
  have c6 := rcell h 6 (.int .i64 s.wf) rfl
  have c7 := rcell h 7 (.int .i64 s.wm) rfl
  have hrl : r < w.heap.size := World.block_lt_of_cell? w ⟨r, 1, none⟩ c1
  have HR := Aside0.mk hC
  have HP := Aside0.mk hp
  have HPF : Hid (∀ x, 0 ≤ x ∧ x ≤ 255 → keepsakeref08_Program.f 2000 s.data s.wf x = some (Cut.prog s.data s.wf x)) := Lib.hid (fun x hx => Cut.rp_f s.data hb s.wf x hx hd 2000 (Nat.le_refl _))
  have HRF := Lib.hid (Cut.rr_f s.data s.wf s.wm pick hd hpl 5000000 (Nat.le_refl _))
  clear h hC hp hb
  unfold cutR
  generalize hxs : s.data = xs at *
  generalize s.wk = k at *
  generalize s.wf = f at *
  generalize s.wm = m at *
  clear hxs
  have hx0 := rd_byte hbp 0
  clear hbp
  by_cases h1 : k = 1
  · by_cases h0 : 0 < (pick.length : Int)
    · rw [if_pos ⟨h1, h0⟩]
      have hkb : (k == 1) = true := beq_iff_eq.2 h1
      obtain ⟨ad, rfl, hcp⟩ := (Kd.reads_of_C (enc := Value.int .u8) (d := (0 : Int)) (h1 := fun _ => rfl) HP.out).2.2 (by omega)
      have hcp0 := hcp 0 (by omega)
      have ha0 : ad.add 0 = ad := by simp [Addr.add]
      rw [ha0] at hcp0
      have hx : pick.getD 0 0 = rd pick 0 := rfl
      rw [hx] at hcp0
      clear hcp ha0 hx h1
      generalize rd pick 0 = x at *
      have HF := Aside0.mk (HPF.out x hx0)
      clear HPF
      go_enter Try.func33, Try.ntmps33
      go_wp2
      go_still_tail 12, (by kernel_rfl)
      go_wp2_with (go_at_call 43; (with_reducible refine (keepsakeref08_Program.calls _ _ _ xs _ _ _ _ (Kd.C_below HR.out (Below.refl _ _).drew) hc HF.out).mono ?_); rintro e w1 ⟨v1, rfl, hR, hb⟩; have HO := Aside0.mk (rheld_new HH.out.drew hR hb); clear hR hb)
      go_ret
      exact ⟨v1, rfl, HO.out⟩
    · rw [if_neg (fun h => h0 h.2), if_neg (by omega)]
      have hkb : (k == 1) = true := beq_iff_eq.2 h1
      have hk2 : (k == 2) = false := beq_eq_false_iff_ne.2 (by omega)
      clear h1 HPF
      go_enter Try.func33, Try.ntmps33
      go_wp2_with (at_builtin; refine Kd.R_append_rows (Kd.int .u8) (w0 := w) w.heap.size rfl (.tmp 51) (.tmp 55) 22 5 (.int .u8 0) 1 rfl Try.underlying22 infoB rfl (by decide) (by omega) (.slice (some ⟨w.heap.size, 0, none⟩) 0 0) ([] : List Int) xs _ _ _ (fun _ => True) (fun _ => False) rfl rfl ?aO ?aR (fun _ _ h => h) (fun _ h => h.elim) ?aF ?aB ?aS ?aL ?_; (case aR => exact Kd.C_alloc HR.out _); (case aB => exact (Below.refl _ _).alloc (Nat.le_refl _) _); (case aF => exact (fun _ _ => trivial)); (case aO => exact Kd.R_of_own (World.ownsRow_lit w #[] 0 (Nat.le_refl _) (by decide) rfl) (fun _ _ => trivial)); (case aS => simp); (case aL => simp; omega); intro v1 w2 ho hb hg hat; obtain ⟨A1, c1, rfl⟩ := Kd.R_slice ho; have HO := Aside0.mk (rheld_new HH.out ho hb); clear ho hb hg hat)
      go_ret
      exact ⟨_, rfl, HO.out⟩
  · rw [if_neg (fun h => h1 h.1)]
    have hkb : (k == 1) = false := beq_eq_false_iff_ne.2 h1
    clear HPF h1
    by_cases h2 : k = 2
    · rw [if_pos h2]
      have hk2 : (k == 2) = true := beq_iff_eq.2 h2
      clear h2
      go_enter Try.func33, Try.ntmps33
      go_wp2
      go_still_tail 15, (by kernel_rfl)
      go_wp2_with (go_at_call 44; (with_reducible refine (keepsakeref08_Range.calls _ _ _ xs _ _ _ _ _ _ _ (Kd.C_below HR.out (Below.refl _ _).drew) hc (Kd.C_below HP.out (Below.refl _ _).drew) hc2 HRF.out).mono ?_); rintro e w1 ⟨v1, rfl, hR, hb⟩; have HO := Aside0.mk (rheld_new HH.out.drew hR hb); clear hR hb)
      go_ret
      exact ⟨v1, rfl, HO.out⟩
    · rw [if_neg h2]
      have hk2 : (k == 2) = false := beq_eq_false_iff_ne.2 h2
      clear h2
      go_enter Try.func33, Try.ntmps33
      go_wp2_with (at_builtin; refine Kd.R_append_rows (Kd.int .u8) (w0 := w) w.heap.size rfl (.tmp 51) (.tmp 55) 22 5 (.int .u8 0) 1 rfl Try.underlying22 infoB rfl (by decide) (by omega) (.slice (some ⟨w.heap.size, 0, none⟩) 0 0) ([] : List Int) xs _ _ _ (fun _ => True) (fun _ => False) rfl rfl ?aO ?aR (fun _ _ h => h) (fun _ h => h.elim) ?aF ?aB ?aS ?aL ?_; (case aR => exact Kd.C_alloc HR.out _); (case aB => exact (Below.refl _ _).alloc (Nat.le_refl _) _); (case aF => exact (fun _ _ => trivial)); (case aO => exact Kd.R_of_own (World.ownsRow_lit w #[] 0 (Nat.le_refl _) (by decide) rfl) (fun _ _ => trivial)); (case aS => simp); (case aL => simp; omega); intro v1 w2 ho hb hg hat; obtain ⟨A1, c1, rfl⟩ := Kd.R_slice ho; have HO := Aside0.mk (rheld_new HH.out ho hb); clear ho hb hg hat)
      go_ret
      exact ⟨_, rfl, HO.out⟩
end Go.Proofs.Ytpkgpcolngoicaa.Given
