/- SramNew: a chip of any number of units with any bytes has these, locked, or it can't be: for every input. -/
import Derived.Test.YtehjfcfnnpjedaaAx2
import Derived.Test.YtehjfcfnnpjedaaSram
import Derived.Test.YtehjfcfnnpjedaaOps
import Derived.Test.YtehjfcfnnpjedaaSame
set_option linter.unusedVariables false
set_option linter.unusedSimpArgs false
namespace Go.Proofs.Ytehjfcfnnpjedaa.Given
open Go.RowKit Go.Proofs.Ytehjfcfnnpjedaa.All Go.Proofs.Ytehjfcfnnpjedaa.Sep Go.Proofs.YtehjfcfnnpjedaaW.PrintWords Go.Proofs.YtehjfcfnnpjedaaW.PrintLast Go.Proofs.YtehjfcfnnpjedaaW.PrintMore
attribute [local go_sem] max2_int min2_int max_two min_two

theorem same_yes {w : World} {A0 A1 : Option Addr} {c0 c1 : Nat} {l : List Int} (hr0 : (Kd.int .u8).C w A0 l.length l) (hc0 : l.length ≤ c0) (hr1 : (Kd.int .u8).C w A1 l.length l) (hc1 : l.length ≤ c1) (hl : l.length ≤ 100000) :
    Calls Try.prog 17 #[.slice A0 l.length c0, .slice A1 l.length c1] w fun e w' => e = .returned (.bool true) ∧ Drawn0 w w' :=
  keepsakeref01_Same.calls (l.length + 1) _ _ l _ _ l true w hr0 hc0 hr1 hc1 (by rw [Same.same_f l l (by omega) _ (Nat.le_refl _)]; simp)
theorem ref03_walk (n : Int) (w : World) : Calls Try.prog 21 #[.int .i64 n] w fun e w' => e = .returned (.int .i64 (if n < 0 then 0 else if n > 128 then 0 else 64 * n)) ∧ Drawn0 w w' :=
  keepsakeref03_Sram.calls n _ w (by
    unfold keepsakeref03_Sram.f
    split
    · rfl
    · split
      · rfl
      · congr 1; unfold wrap64; omega)
set_option maxHeartbeats 800000 in
theorem sramNew_yes (n : Int) (A : Option Addr) (c : Nat) (l : List Int) (w : World) (hr : (Kd.int .u8).C w A l.length l) (hc : l.length ≤ c) (h0 : 1 ≤ n) (h1 : n ≤ 128) (hl : (l.length : Int) = 64 * n) (hle : l.length ≤ 300) :
    Calls Try.prog 4 #[.int .i64 n, .slice A l.length c] w fun e w' => e = .returned (.bool true) ∧ Below w.heap.size w w' := by
  have HW := Lib.hid (awake_walk (Held.nil w))
  have HR := Aside0.mk hr
  have hS := fun w => ref03_walk n w
  have e3 : (if n < 0 then 0 else if n > 128 then 0 else 64 * n) = (l.length : Int) := by rw [if_neg (by omega), if_neg (by omega)]; exact hl.symm
  rw [e3] at hS
  have HS := Lib.hid hS
  have HN : Aside0 (∀ w1, Held w w1 [] → Calls Try.prog 20 #[.int .i64 n, .slice A l.length c] w1 fun e w' => ∃ g, e = .returned (.tuple #[ptr g, .int .i64 0]) ∧ Held w w' [chip g false l]) :=
    ⟨fun w1 h => (new_walk A c n l h (Kd.C_below hr h.bel) hc (by omega)).mono fun e w' hb => born_got hb h0 h1 hl⟩
  clear hr hS e3 hl
  go_enter Try.func4, Try.ntmps4
  go_wp2_with (first
    | (go_at_call 8; (with_reducible refine HW.out.mono ?_); rintro e w1 ⟨rfl, h⟩; have HA := Aside0.mk h; clear h)
    | (go_at_call 20; (with_reducible refine (HN.out _ HA.out).mono ?_); rintro e w2 ⟨g, rfl, h⟩; have HB := Aside0.mk h; clear h)
    | (go_at_call 21; (with_reducible refine (HS.out _).mono ?_); rintro e w3 ⟨rfl, hd⟩; have HC := Aside0.mk (HB.out.below hd.below); clear hd)
    | (go_at_call 12; (with_reducible refine (locked_walk HC.out).mono ?_); rintro e w4 ⟨rfl, rfl⟩)
    | (go_at_call 18; (with_reducible refine (bytes_walk HC.out).mono ?_); rintro e w5 ⟨v5, rfl, h⟩; obtain ⟨A5, c5, rfl, hc5, hr5⟩ := h.row_at; have HR5 := Aside0.mk hr5; have HD := Aside0.mk h; clear h hr5)
    | (go_at_call 17; (with_reducible refine (same_yes HR5.out hc5 (Kd.C_below HR.out HD.out.bel) hc (by omega)).mono ?_); rintro e w6 ⟨rfl, hd⟩; have HE := Aside0.mk (HD.out.below hd.below); clear hd))
  go_ret
  exact ⟨rfl, HE.out.bel⟩
theorem sramNew_long (n : Int) (A : Option Addr) (c : Nat) (l : List Int) (w : World) (hle : 300 < l.length) :
    Calls Try.prog 4 #[.int .i64 n, .slice A l.length c] w fun e w' => e = .returned (.bool true) ∧ Below w.heap.size w w' := by
  have HW := Lib.hid (awake_walk (Held.nil w))
  go_enter Try.func4, Try.ntmps4
  go_wp2_with (go_at_call 8; (with_reducible refine HW.out.mono ?_); rintro e w1 ⟨rfl, h⟩; have HA := Aside0.mk h; clear h)
  go_ret
  exact ⟨rfl, HA.out.bel⟩
set_option maxHeartbeats 800000 in
theorem sramNew_no (n : Int) (A : Option Addr) (c : Nat) (l : List Int) (w : World) (hr : (Kd.int .u8).C w A l.length l) (hc : l.length ≤ c) (hn : ¬ (1 ≤ n ∧ n ≤ 128 ∧ (l.length : Int) = 64 * n)) (hle : l.length ≤ 300) :
    Calls Try.prog 4 #[.int .i64 n, .slice A l.length c] w fun e w' => e = .returned (.bool true) ∧ Below w.heap.size w w' := by
  have HW := Lib.hid (awake_walk (Held.nil w))
  have HN : Aside0 (∀ w1, Held w w1 [] → Calls Try.prog 20 #[.int .i64 n, .slice A l.length c] w1 fun e w' => e = .returned (.tuple #[.pointer none, .int .i64 1]) ∧ Held w w' []) :=
    ⟨fun w1 h => (new_no A c n l h hc (by omega) hn).mono fun e w' hb => by unfold Born at hb; rwa [if_neg hn] at hb⟩
  have HS := Lib.hid (fun w => ref03_walk n w)
  clear hr
  rcases Int.lt_or_le n 1 with h0 | h0
  · clear hn
    go_enter Try.func4, Try.ntmps4
    go_wp2_with (first
      | (go_at_call 8; (with_reducible refine HW.out.mono ?_); rintro e w1 ⟨rfl, h⟩; have HA := Aside0.mk h; clear h)
      | (go_at_call 20; (with_reducible refine (HN.out _ HA.out).mono ?_); rintro e w2 ⟨rfl, h⟩; have HB := Aside0.mk h; clear h))
    go_ret
    exact ⟨rfl, HB.out.bel⟩
  · rcases Int.lt_or_le 128 n with h1 | h1
    · clear hn
      go_enter Try.func4, Try.ntmps4
      go_wp2_with (first
        | (go_at_call 8; (with_reducible refine HW.out.mono ?_); rintro e w1 ⟨rfl, h⟩; have HA := Aside0.mk h; clear h)
        | (go_at_call 20; (with_reducible refine (HN.out _ HA.out).mono ?_); rintro e w2 ⟨rfl, h⟩; have HB := Aside0.mk h; clear h))
      go_ret
      exact ⟨rfl, HB.out.bel⟩
    · have hne : ((l.length : Int) != 64 * n) = true := bne_iff_ne.mpr (fun h => hn ⟨h0, h1, h⟩)
      have e3 : (if n < 0 then 0 else if n > 128 then 0 else 64 * n) = 64 * n := by rw [if_neg (by omega), if_neg (by omega)]
      rw [e3] at HS
      clear hn e3
      generalize 64 * n = m at *
      go_enter Try.func4, Try.ntmps4
      go_wp2_with (first
        | (go_at_call 8; (with_reducible refine HW.out.mono ?_); rintro e w1 ⟨rfl, h⟩; have HA := Aside0.mk h; clear h)
        | (go_at_call 20; (with_reducible refine (HN.out _ HA.out).mono ?_); rintro e w2 ⟨rfl, h⟩; have HB := Aside0.mk h; clear h)
        | (go_at_call 21; (with_reducible refine (HS.out _).mono ?_); rintro e w3 ⟨rfl, hd⟩; have HC := Aside0.mk (HB.out.below hd.below); clear hd))
      go_ret
      exact ⟨rfl, HC.out.bel⟩
theorem sramNew_walk (n : Int) (A : Option Addr) (c : Nat) (l : List Int) (w : World) (hw : (Lit.int .i64 n).wf = true) (hr : (Kd.int .u8).C w A l.length l) (hc : l.length ≤ c) (hb : ∀ x ∈ l, (Lit.int .u8 x).wf = true) :
    Calls Try.prog 4 #[.int .i64 n, .slice A l.length c] w fun e w' => e = .returned (.bool true) ∧ Below w.heap.size w w' := by
  by_cases hle : l.length ≤ 300
  · by_cases hn : 1 ≤ n ∧ n ≤ 128 ∧ (l.length : Int) = 64 * n
    · exact sramNew_yes n A c l w hr hc hn.1 hn.2.1 hn.2.2 hle
    · exact sramNew_no n A c l w hr hc hn hle
  · exact sramNew_long n A c l w (by omega)
end Go.Proofs.Ytehjfcfnnpjedaa.Given
