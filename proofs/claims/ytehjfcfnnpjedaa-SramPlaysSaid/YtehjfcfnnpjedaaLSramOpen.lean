/- SramOpen: what is written while it is open is read, there and wherever its address comes round: for every input. -/
import Derived.Test.YtehjfcfnnpjedaaLSramLocked
set_option linter.unusedVariables false
set_option linter.unusedSimpArgs false
namespace Go.Proofs.Ytehjfcfnnpjedaa.Given
open Go.RowKit Go.Proofs.Ytehjfcfnnpjedaa.All Go.Proofs.Ytehjfcfnnpjedaa.Sep Go.Proofs.YtehjfcfnnpjedaaW.PrintWords Go.Proofs.YtehjfcfnnpjedaaW.PrintLast Go.Proofs.YtehjfcfnnpjedaaW.PrintMore
attribute [local go_sem] max2_int min2_int max_two min_two

theorem act_len (s : St) (p : Op) : (act s p).2.length = s.2.length := by
  unfold act
  split
  · split
    · simp
    · rfl
  · split <;> rfl
theorem run_len (s : St) (l : List Op) : (run s l).2.length = s.2.length := by
  induction l generalizing s with
  | nil => rfl
  | cons p l ih => exact (ih (act s p)).trans (act_len s p)
theorem row_put {w0 w : World} {ts : List Thing} {q c : Nat} {xs : List Int} (h : Held w0 w (row (Kd.int .u8) 5 (.slice (some ⟨q, 0, none⟩) xs.length c) xs :: ts)) (i : Int) (x : Int) :
    Held w0 (w.setCell ⟨q, i.toNat, none⟩ (.int .u8 x)) (row (Kd.int .u8) 5 (.slice (some ⟨q, 0, none⟩) xs.length c) (xs.set i.toNat x) :: ts) :=
  h.one (fun f _ hf => ⟨f, ⟨fun k hk => by simpa [World.setCell] using hf.1 k hk, (Kd.R_put hf.2 i x).1⟩, Frame.set (hf.2.1 q rfl) _⟩)
theorem row_cell {w0 w : World} {ts : List Thing} {A : Option Addr} {c : Nat} {xs : List Int} (h : Held w0 w (row (Kd.int .u8) 5 (.slice A xs.length c) xs :: ts)) (i : Int) (h0 : 0 ≤ i) (h1 : i < xs.length) :
    ∃ q, A = some ⟨q, 0, none⟩ ∧ w.cell? ⟨q, i.toNat, none⟩ = some (.int .u8 (rd xs i)) ∧ w.frozen? ⟨q, i.toNat, none⟩ = false := by
  obtain ⟨f, _, _, hr⟩ := h.at_
  obtain ⟨q, cap, e, _⟩ := Kd.R_form hr (by omega)
  injection e with e1 _ e2
  subst e1 e2
  obtain ⟨h3, h4⟩ := Kd.R_cell (0 : Int) hr i h0 h1
  exact ⟨q, rfl, h3, h4⟩
theorem rd_set (xs : List Int) (i : Int) (x : Int) (h0 : 0 ≤ i) (h1 : i < xs.length) : rd (xs.set i.toNat x) i = x := by
  unfold rd
  rw [List.getD_eq_getElem?_getD, List.getElem?_set_self (by omega)]
  rfl
theorem place_of (xs : List Int) (a i : Int) (ha : 0 ≤ a) (h : a % (xs.length : Int) = i) : place xs a = i := by
  unfold place mx
  rw [← h]
  by_cases h0 : 0 < a
  · rw [if_pos h0]
  · rw [if_neg h0, show a = 0 by omega]
set_option maxHeartbeats 1600000 in
theorem sramOpen_main (u a v : Int) (A1 : Option Addr) (c1 : Nat) (b : List Int) (A2 : Option Addr) (c2 : Nat) (l : List Op) (w : World) (hu : 0 ≤ u ∧ u ≤ 255) (ha : 0 ≤ a ∧ a ≤ 65535)
    (hr1 : (Kd.int .u8).C w A1 b.length b) (hc1 : b.length ≤ c1) (hr2 : Kd.C k34 w A2 l.length l)
    (hb : b.length ≤ 40) (hl : l.length ≤ 60) :
    Calls Try.prog 6 #[.int .u8 u, .slice A1 b.length c1, .slice A2 l.length c2, .int .u16 a, .int .u8 v] w fun e w' => e = .returned (.bool true) ∧ Below w.heap.size w w' := by
  have HW := Lib.hid (awake_walk (Held.nil w))
  have HM : Aside0 (∀ w1, Held w w1 [] → Calls Try.prog 10 #[.int .i64 (1 + u % 4), .slice A1 b.length c1] w1 (Got w false (fillOf b (64 * (1 + u % 4))) [])) :=
    ⟨fun w1 h => made_walk A1 c1 (1 + u % 4) b h (Kd.C_below hr1 h.bel) hc1 hb (by omega) (by omega)⟩
  have HR2 := Aside0.mk hr2
  obtain ⟨hu0, hu1⟩ := hu
  obtain ⟨ha0, ha1⟩ := ha
  obtain ⟨_, hlen⟩ := fill_f b (by omega) (64 * (1 + u % 4)) (by omega) (by omega)
  generalize fillOf b (64 * (1 + u % 4)) = xs at *
  obtain ⟨⟨o3, x3⟩, hs⟩ : ∃ s, run (false, xs) l = s := ⟨_, rfl⟩
  have h3 : (x3.length : Int) = 64 * (1 + u % 4) := by rw [← hlen, ← run_len (false, xs) l, hs]
  obtain ⟨i, hi⟩ : ∃ i, a % (64 * (1 + u % 4)) = i := ⟨_, rfl⟩
  have hi0 : 0 ≤ i := by rw [← hi]; exact Int.emod_nonneg _ (by omega)
  have hi1 : i < (x3.length : Int) := by rw [← hi, h3]; exact Int.emod_lt_of_pos _ (by omega)
  have hp1 : place x3 a = i := place_of x3 a i ha0 (by rw [h3]; exact hi)
  obtain ⟨y3, hy3⟩ : ∃ ys, x3.set i.toNat v = ys := ⟨_, rfl⟩
  have hyl : y3.length = x3.length := by rw [← hy3]; simp
  have hp2 : rd y3 (place y3 a) = v := by rw [place_of y3 a i ha0 (by rw [hyl, h3]; exact hi), ← hy3]; exact rd_set _ _ _ hi0 hi1
  have hp3 : rd y3 (place y3 (a + 64 * (1 + u % 4))) = v := by rw [place_of y3 _ i (by omega) (by rw [hyl, h3, Int.add_emod_right]; exact hi), ← hy3]; exact rd_set _ _ _ hi0 hi1
  have HS := Aside0.mk hs
  have HP1 := Aside0.mk hp1
  have HP2 := Aside0.mk hp2
  have HP3 := Aside0.mk hp3
  have HY := Aside0.mk hy3
  have HYL := Aside0.mk hyl
  have hne : ((x3.length : Int) != 64 * (1 + u % 4)) = false := by rw [h3]; simp
  have hd0 : 0 < 64 * (1 + u % 4) := by omega
  clear hr1 hr2 hlen hs h3 hp1 hp2 hp3 hy3 hyl
  go_enter Try.func6, Try.ntmps6
  go_wp2_with (first
    | (go_at_call 8; (with_reducible refine HW.out.mono ?_); rintro e w1 ⟨rfl, h⟩; have HA := Aside0.mk h; clear h)
    | (go_at_call 10; (with_reducible refine (HM.out _ HA.out).mono ?_); rintro e w2 ⟨g, rfl, h⟩; have HB := Aside0.mk h; clear h)
    | (go_at_call 22; (with_reducible refine (do_walk (s := (false, xs)) A2 c2 l HB.out HR2.out (by omega)).mono ?_); rintro e w3 ⟨rfl, h⟩; rw [HS.out] at h; have HC := Aside0.mk (p := Held w w3 [chip g o3 x3]) h; clear h)
    | (go_at_call 14; (with_reducible refine (latch_walk HC.out 165).mono ?_); rintro e w4 ⟨rfl, h⟩; have HD := Aside0.mk (p := Held w w4 [chip g true x3]) h; clear h)
    | (go_at_call 18; (with_reducible refine (bytes_walk HD.out).mono ?_); rintro e w5 ⟨v5, rfl, h⟩; obtain ⟨A5, c5, rfl, hc5, hr5⟩ := h.row_at; obtain ⟨q5, rfl, hq1, hq2⟩ := row_cell h i hi0 hi1; have hF := (row_put h i v).swap; rw [HY.out] at hF; have HF := Aside0.mk hF; clear h hr5 hF)
    | (go_at_call 13; (with_reducible refine (write_open HF.out a v).mono ?_); rintro e w6 ⟨rfl, h⟩; rw [HP1.out, HY.out] at h; have HG := Aside0.mk h; clear h)
    | (go_at_call 15; (with_reducible refine (read_is HG.out HP2.out).mono ?_); rintro e w7 ⟨rfl, h⟩; have HH := Aside0.mk h; clear h)
    | (go_at_call 15; (with_reducible refine (read_is HH.out HP3.out).mono ?_); rintro e w8 ⟨rfl, h⟩; have HI := Aside0.mk h; clear h)
    | (go_at_call 18; (with_reducible refine (bytes_walk HI.out).mono ?_); rintro e w9 ⟨v9, rfl, h⟩; obtain ⟨A9, c9, rfl, hc9, hr9⟩ := h.row_at; have hz := row_reads h.third; rw [← HYL.out] at hz; have HR9 := Aside0.mk hr9; have HR5 := Aside0.mk hz; have HJ := Aside0.mk h; clear h hr9 hz)
    | (go_at_call 17; (try rw [← HYL.out]); (with_reducible refine (same_yes HR9.out hc9 HR5.out.2.2 HR5.out.2.1 (by have := chip_le HI.out; omega)).mono ?_); rintro e w10 ⟨rfl, hd⟩; have HK := Aside0.mk (HJ.out.below hd.below); clear hd))
  go_ret
  exact ⟨rfl, HK.out.bel⟩
theorem sramOpen_early (u a v : Int) (A1 : Option Addr) (c1 : Nat) (b : List Int) (A2 : Option Addr) (c2 : Nat) (l : List Op) (w : World) (hu : 0 ≤ u ∧ u ≤ 255) (h : 40 < b.length ∨ 60 < l.length) :
    Calls Try.prog 6 #[.int .u8 u, .slice A1 b.length c1, .slice A2 l.length c2, .int .u16 a, .int .u8 v] w fun e w' => e = .returned (.bool true) ∧ Below w.heap.size w w' := by
  have HW := Lib.hid (awake_walk (Held.nil w))
  obtain ⟨hu0, hu1⟩ := hu
  rcases h with h | h
  · go_enter Try.func6, Try.ntmps6
    go_wp2_with (go_at_call 8; (with_reducible refine HW.out.mono ?_); rintro e w1 ⟨rfl, h⟩; have HA := Aside0.mk h; clear h)
    go_ret
    exact ⟨rfl, HA.out.bel⟩
  · by_cases h1 : 40 < b.length
    all_goals
      go_enter Try.func6, Try.ntmps6
      go_wp2_with (go_at_call 8; (with_reducible refine HW.out.mono ?_); rintro e w1 ⟨rfl, h⟩; have HA := Aside0.mk h; clear h)
      go_ret
      exact ⟨rfl, HA.out.bel⟩
theorem sramOpen_walk (u : Int) (A1 : Option Addr) (c1 : Nat) (b : List Int) (A2 : Option Addr) (c2 : Nat) (l : List Op) (a v : Int) (w : World) (hu : (Lit.int .u8 u).wf = true)
    (hr1 : (Kd.int .u8).C w A1 b.length b) (hc1 : b.length ≤ c1) (hb1 : ∀ x ∈ b, (Lit.int .u8 x).wf = true) (hr2 : Kd.C k34 w A2 l.length l) (hc2 : l.length ≤ c2) (hw2 : ∀ p ∈ l, OpWf p)
    (ha : (Lit.int .u16 a).wf = true) (hv : (Lit.int .u8 v).wf = true) :
    Calls Try.prog 6 #[.int .u8 u, .slice A1 b.length c1, .slice A2 l.length c2, .int .u16 a, .int .u8 v] w fun e w' => e = .returned (.bool true) ∧ Below w.heap.size w w' := by
  have ha' : 0 ≤ a ∧ a ≤ 65535 := by
    simp [Lit.wf, IntKind.min, IntKind.max, IntKind.signed, IntKind.bits] at ha
    omega
  by_cases h : 40 < b.length ∨ 60 < l.length
  · exact sramOpen_early u a v A1 c1 b A2 c2 l w (u8_bd hu) h
  · exact sramOpen_main u a v A1 c1 b A2 c2 l w (u8_bd hu) ha' hr1 hc1 hr2 (by omega) (by omega)
end Go.Proofs.Ytehjfcfnnpjedaa.Given
