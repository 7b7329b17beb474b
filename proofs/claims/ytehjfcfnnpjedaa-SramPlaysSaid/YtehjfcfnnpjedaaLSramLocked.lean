/- SramLocked: behind a latch that isn't open nothing is written: for every input. -/
import Derived.Test.YtehjfcfnnpjedaaLSramNew
set_option linter.unusedVariables false
set_option linter.unusedSimpArgs false
namespace Go.Proofs.Ytehjfcfnnpjedaa.Given
open Go.RowKit Go.Proofs.Ytehjfcfnnpjedaa.All Go.Proofs.Ytehjfcfnnpjedaa.Sep Go.Proofs.YtehjfcfnnpjedaaW.PrintWords Go.Proofs.YtehjfcfnnpjedaaW.PrintLast Go.Proofs.YtehjfcfnnpjedaaW.PrintMore
attribute [local go_sem] max2_int min2_int max_two min_two

theorem u8_bd {a : Int} (h : (Lit.int .u8 a).wf = true) : 0 ≤ a ∧ a ≤ 255 := by
  simp [Lit.wf, IntKind.min, IntKind.max, IntKind.signed, IntKind.bits] at h
  omega
theorem row_reads {α : Type} {d : Kd α} {t : Nat} {w0 w : World} {ts : List Thing} {A : Option Addr} {n c : Nat} {xs : List α} (h : Held w0 w (row d t (.slice A n c) xs :: ts)) : n = xs.length ∧ n ≤ c ∧ d.C w A xs.length xs := by
  obtain ⟨f, h1, h2⟩ := h.at_
  exact Kd.R_reads' h2.2
theorem chip_le {w0 w : World} {ts : List Thing} {g : Nat} {o : Bool} {xs : List Int} (h : Held w0 w (chip g o xs :: ts)) : xs.length ≤ 100000 := by
  obtain ⟨f, _, h2⟩ := h.at_
  exact h2.le
abbrev Op := S34
set_option maxHeartbeats 800000 in
theorem sramLocked_main (u v : Int) (A1 : Option Addr) (c1 : Nat) (b : List Int) (A2 : Option Addr) (c2 : Nat) (l : List Op) (A3 : Option Addr) (c3 : Nat) (m : List Op) (w : World) (hu : 0 ≤ u ∧ u ≤ 255)
    (hr1 : (Kd.int .u8).C w A1 b.length b) (hc1 : b.length ≤ c1) (hr2 : Kd.C k34 w A2 l.length l) (hr3 : Kd.C k34 w A3 m.length m)
    (hb : b.length ≤ 40) (hl : l.length ≤ 60) (hm : m.length ≤ 60) (hv : v ≠ 165) :
    Calls Try.prog 5 #[.int .u8 u, .slice A1 b.length c1, .slice A2 l.length c2, .slice A3 m.length c3, .int .u8 v] w fun e w' => e = .returned (.bool true) ∧ Below w.heap.size w w' := by
  have HW := Lib.hid (awake_walk (Held.nil w))
  have HM : Aside0 (∀ w1, Held w w1 [] → Calls Try.prog 10 #[.int .i64 (1 + u % 4), .slice A1 b.length c1] w1 (Got w false (fillOf b (64 * (1 + u % 4))) [])) :=
    ⟨fun w1 h => made_walk A1 c1 (1 + u % 4) b h (Kd.C_below hr1 h.bel) hc1 hb (by omega) (by omega)⟩
  have HR2 := Aside0.mk hr2
  have HR3 := Aside0.mk hr3
  have hv' : (v == 165) = false := beq_eq_false_iff_ne.mpr hv
  obtain ⟨hu0, hu1⟩ := hu
  clear hr1 hr2 hr3
  generalize fillOf b (64 * (1 + u % 4)) = xs at *
  go_enter Try.func5, Try.ntmps5
  go_wp2_with (first
    | (go_at_call 8; (with_reducible refine HW.out.mono ?_); rintro e w1 ⟨rfl, h⟩; have HA := Aside0.mk h; clear h)
    | (go_at_call 10; (with_reducible refine (HM.out _ HA.out).mono ?_); rintro e w2 ⟨g, rfl, h⟩; have HB := Aside0.mk h; clear h)
    | (go_at_call 22; (with_reducible refine (do_walk (s := (false, xs)) A2 c2 l HB.out HR2.out (by omega)).mono ?_); rintro e w3 ⟨rfl, h⟩; obtain ⟨⟨o3, x3⟩, hs⟩ : ∃ s, run (false, xs) l = s := ⟨_, rfl⟩; rw [hs] at h; clear hs; have HC := Aside0.mk (p := Held w w3 [chip g o3 x3]) h; clear h)
    | (go_at_call 14; (with_reducible refine (latch_walk HC.out v).mono ?_); rintro e w4 ⟨rfl, h⟩; rw [hv'] at h; have HD := Aside0.mk h; clear h)
    | (go_at_call 18; (with_reducible refine (bytes_walk HD.out).mono ?_); rintro e w5 ⟨v5, rfl, h⟩; obtain ⟨A5, c5, rfl, hc5, hr5⟩ := h.row_at; have HE := Aside0.mk h.swap; clear h hr5))
  go_loopw [15] (fun i wr => ∃ k : Nat, k ≤ m.length ∧ i = .int .i64 k ∧ Aside0 (Held w wr [chip g false x3, row (Kd.int .u8) 5 (.slice A5 x3.length c5) x3])) (fun i _ => m.length - (intOf i).toNat)
  case atStart => exact ⟨0, Nat.zero_le _, rfl, HE⟩
  case round =>
    obtain ⟨k, hk, rfl, hH⟩ := hrel
    clear HE HD HC HB HA HM HW
    by_cases hlt : k < m.length
    · obtain ⟨ad, rfl, hc⟩ := ops_at HR3.out k hlt
      obtain ⟨_, h1, h2⟩ := hc _ hH.out.bel
      clear hc
      generalize opAt m k = y at *
      go_wp2
      go_still_tail 11, (by kernel_rfl)
      go_wp2_with (go_at_call 13; (with_reducible refine (write_shut hH.out.drew y.f1 y.f2).mono ?_); rintro e w6 ⟨rfl, rfl⟩)
      go_roundw
      case rel => exact ⟨k + 1, by omega, by go_num, ⟨hH.out.drew⟩⟩
      case measure => simp [intOf]; omega
    · obtain rfl : k = m.length := by omega
      have hx3 := chip_le hH.out
      go_wp2_with (first
        | (go_at_call 12; (with_reducible refine (locked_walk hH.out).mono ?_); rintro e w6 ⟨rfl, rfl⟩)
        | (go_at_call 18; (with_reducible refine (bytes_walk hH.out).mono ?_); rintro e w7 ⟨v7, rfl, h⟩; obtain ⟨A7, c7, rfl, hc7, hr7⟩ := h.row_at; have HR7 := Aside0.mk hr7; have HR8 := Aside0.mk (row_reads h.third).2.2; have HD := Aside0.mk h; clear h hr7)
        | (go_at_call 17; (with_reducible refine (same_yes HR7.out hc7 HR8.out hc5 hx3).mono ?_); rintro e w8 ⟨rfl, hd⟩; have HE := Aside0.mk (HD.out.below hd.below); clear hd))
      go_ret
      exact ⟨rfl, HE.out.bel⟩
theorem sramLocked_early (u v : Int) (A1 : Option Addr) (c1 : Nat) (b : List Int) (A2 : Option Addr) (c2 : Nat) (l : List Op) (A3 : Option Addr) (c3 : Nat) (m : List Op) (w : World) (hu : 0 ≤ u ∧ u ≤ 255)
    (h : 40 < b.length ∨ 60 < l.length ∨ 60 < m.length ∨ v = 165) :
    Calls Try.prog 5 #[.int .u8 u, .slice A1 b.length c1, .slice A2 l.length c2, .slice A3 m.length c3, .int .u8 v] w fun e w' => e = .returned (.bool true) ∧ Below w.heap.size w w' := by
  have HW := Lib.hid (awake_walk (Held.nil w))
  obtain ⟨hu0, hu1⟩ := hu
  rcases h with h | h | h | h
  · go_enter Try.func5, Try.ntmps5
    go_wp2_with (go_at_call 8; (with_reducible refine HW.out.mono ?_); rintro e w1 ⟨rfl, h⟩; have HA := Aside0.mk h; clear h)
    go_ret
    exact ⟨rfl, HA.out.bel⟩
  · by_cases h1 : 40 < b.length
    all_goals
      go_enter Try.func5, Try.ntmps5
      go_wp2_with (go_at_call 8; (with_reducible refine HW.out.mono ?_); rintro e w1 ⟨rfl, h⟩; have HA := Aside0.mk h; clear h)
      go_ret
      exact ⟨rfl, HA.out.bel⟩
  · by_cases h1 : 40 < b.length
    · go_enter Try.func5, Try.ntmps5
      go_wp2_with (go_at_call 8; (with_reducible refine HW.out.mono ?_); rintro e w1 ⟨rfl, h⟩; have HA := Aside0.mk h; clear h)
      go_ret
      exact ⟨rfl, HA.out.bel⟩
    · by_cases h2 : 60 < l.length
      all_goals
        go_enter Try.func5, Try.ntmps5
        go_wp2_with (go_at_call 8; (with_reducible refine HW.out.mono ?_); rintro e w1 ⟨rfl, h⟩; have HA := Aside0.mk h; clear h)
        go_ret
        exact ⟨rfl, HA.out.bel⟩
  · subst h
    by_cases h1 : 40 < b.length
    · go_enter Try.func5, Try.ntmps5
      go_wp2_with (go_at_call 8; (with_reducible refine HW.out.mono ?_); rintro e w1 ⟨rfl, h⟩; have HA := Aside0.mk h; clear h)
      go_ret
      exact ⟨rfl, HA.out.bel⟩
    · by_cases h2 : 60 < l.length
      · go_enter Try.func5, Try.ntmps5
        go_wp2_with (go_at_call 8; (with_reducible refine HW.out.mono ?_); rintro e w1 ⟨rfl, h⟩; have HA := Aside0.mk h; clear h)
        go_ret
        exact ⟨rfl, HA.out.bel⟩
      · by_cases h3 : 60 < m.length
        all_goals
          go_enter Try.func5, Try.ntmps5
          go_wp2_with (go_at_call 8; (with_reducible refine HW.out.mono ?_); rintro e w1 ⟨rfl, h⟩; have HA := Aside0.mk h; clear h)
          go_ret
          exact ⟨rfl, HA.out.bel⟩
theorem sramLocked_walk (u : Int) (A1 : Option Addr) (c1 : Nat) (b : List Int) (A2 : Option Addr) (c2 : Nat) (l : List Op) (A3 : Option Addr) (c3 : Nat) (m : List Op) (v : Int) (w : World) (hu : (Lit.int .u8 u).wf = true)
    (hr1 : (Kd.int .u8).C w A1 b.length b) (hc1 : b.length ≤ c1) (hb1 : ∀ x ∈ b, (Lit.int .u8 x).wf = true) (hr2 : Kd.C k34 w A2 l.length l) (hc2 : l.length ≤ c2) (hw2 : ∀ p ∈ l, OpWf p)
    (hr3 : Kd.C k34 w A3 m.length m) (hc3 : m.length ≤ c3) (hw3 : ∀ p ∈ m, OpWf p) (hv : (Lit.int .u8 v).wf = true) :
    Calls Try.prog 5 #[.int .u8 u, .slice A1 b.length c1, .slice A2 l.length c2, .slice A3 m.length c3, .int .u8 v] w fun e w' => e = .returned (.bool true) ∧ Below w.heap.size w w' := by
  by_cases h : 40 < b.length ∨ 60 < l.length ∨ 60 < m.length ∨ v = 165
  · exact sramLocked_early u v A1 c1 b A2 c2 l A3 c3 m w (u8_bd hu) h
  · exact sramLocked_main u v A1 c1 b A2 c2 l A3 c3 m w (u8_bd hu) hr1 hc1 hr2 hr3 (by omega) (by omega) (by omega) (by omega)
end Go.Proofs.Ytehjfcfnnpjedaa.Given
