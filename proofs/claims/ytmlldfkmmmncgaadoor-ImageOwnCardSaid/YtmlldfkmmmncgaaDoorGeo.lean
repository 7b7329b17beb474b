/- The table of the kinds of EEPROM, and what the layer reads out of it: by their walks, where the table reads as the program lays it. -/
import Derived.Test.YtmlldfkmmmncgaaDoorWWords
import Derived.Test.YtmlldfkmmmncgaaDoorProg
import Derived.WalkKit
import Derived.WalkSpells
import Derived.RowKit3
import Derived.Deep.QuietTactic
import Derived.BigQuiet
import Derived.Lib.Hide
set_option linter.unusedVariables false
set_option linter.unusedSimpArgs false
namespace Go.Proofs.YtmlldfkmmmncgaaDoor.Given
open Go.RowKit Go.Proofs.YtmlldfkmmmncgaaDoorW.PrintWords

def tab : List Int := [0, 0, 0, 0, 7, 3, 1, 0, 8, 3, 1, 0, 9, 4, 1, 1, 10, 4, 1, 2, 11, 4, 1, 3, 12, 5, 2, 0, 13, 5, 2, 0, 14, 6, 2, 0, 15, 6, 2, 0, 16, 7, 2, 0]
/-- The table lies where the program lays it. -/
structure Laid (w : World) : Prop where
  pos : 1 < w.heap.size
  cells : ∀ j, j < 44 → w.cell? ⟨1, j, none⟩ = some (.int .i64 (tab.getD j 0))
theorem Laid.below {w w1 : World} (h : Laid w) (hb : Below w.heap.size w w1) : Laid w1 :=
  ⟨Nat.lt_of_lt_of_le h.pos hb.size, fun j hj => (hb.cell (p := ⟨1, j, none⟩) h.pos).trans (h.cells j hj)⟩
theorem Laid.alloc {w : World} (h : Laid w) (o : Obj) : Laid (w.alloc o) := h.below ((Below.refl _ _).alloc (Nat.le_refl _) _)
theorem Laid.drew {w : World} (h : Laid w) : Laid w.drew := ⟨h.1, h.2⟩
theorem Laid.drewN {w : World} (h : Laid w) (n : Nat) : Laid (w.drewN n) := ⟨h.1, h.2⟩

theorem within_any (n m : Int) (w : World) :
    Calls Tryd.prog 38 #[.int .i64 n, .int .i64 m] w fun e w' => e = .returned (.bool (decide (0 ≤ n) && decide (n ≤ m))) ∧ w = w' := by
  by_cases h0 : 0 ≤ n
  · go_enter Tryd.func38, Tryd.ntmps38
    go_wp2
    go_ret
    exact ⟨by simp [h0], rfl⟩
  · have h1 : decide (0 ≤ n) = false := by simpa using h0
    go_enter Tryd.func38, Tryd.ntmps38
    go_wp2
    go_ret
    exact ⟨by simp [h0], rfl⟩
def cell (k : Int) (c : Nat) : Int := tab.getD (4 * k.toNat + c) 0
def rowOf (k : Int) : Value := .agg #[.int .i64 (cell k 0), .int .i64 (cell k 1), .int .i64 (cell k 2), .int .i64 (cell k 3)]
theorem row_no (k : Int) (h : ¬ (1 ≤ k ∧ k ≤ 10)) (w : World) :
    Calls Tryd.prog 48 #[.int .i64 k] w fun e w' => e = .returned (.tuple #[.agg #[.int .i64 0, .int .i64 0, .int .i64 0, .int .i64 0], .bool false]) ∧ Below w.heap.size w w' := by
  have hb : ∀ c1 t, Below w.heap.size w (w.alloc (.cells c1 t)) := fun c1 t => (Below.refl _ _).alloc (Nat.le_refl _) _
  have HB := Lib.hid hb
  clear hb
  by_cases h0 : k = 0
  · subst h0
    go_enter Tryd.func48, Tryd.ntmps48
    go_wp2
    exact bodyPost_ret (v := .tuple #[.agg #[.int .i64 0, .int .i64 0, .int .i64 0, .int .i64 0], .bool false]) (by simp [results, Tryd.results48, go_sem]) rfl ⟨rfl, HB.out _ _⟩
  · have hz : (k == 0) = false := by simpa using h0
    have hw : (decide (0 ≤ k) && decide (k ≤ 10)) = false := by
      rw [Bool.and_eq_false_iff, decide_eq_false_iff_not, decide_eq_false_iff_not]; omega
    have HW := Lib.hid hw
    clear hw h h0
    go_enter Tryd.func48, Tryd.ntmps48
    go_wp2_with (go_at_call 38; refine (within_any _ _ _).mono ?_; rintro e w' ⟨rfl, rfl⟩; rw [HW.out])
    exact bodyPost_ret (v := .tuple #[.agg #[.int .i64 0, .int .i64 0, .int .i64 0, .int .i64 0], .bool false]) (by simp [results, Tryd.results48, go_sem]) rfl ⟨rfl, HB.out _ _⟩

theorem row_1 (w : World) (hG : Laid w) : Calls Tryd.prog 48 #[.int .i64 1] w fun e w' => e = .returned (.tuple #[.agg #[.int .i64 7, .int .i64 3, .int .i64 1, .int .i64 0], .bool true]) ∧ Below w.heap.size w w' := by
  have hb : ∀ c1 t, Below w.heap.size w (w.alloc (.cells c1 t)) := fun c1 t => (Below.refl _ _).alloc (Nat.le_refl _) _
  have HB := Lib.hid hb
  clear hb
  have c0 := fun o => (hG.alloc o).cells 4 (by omega)
  have c1 := fun o => (hG.alloc o).cells 5 (by omega)
  have c2 := fun o => (hG.alloc o).cells 6 (by omega)
  have c3 := fun o => (hG.alloc o).cells 7 (by omega)
  clear hG
  go_enter Tryd.func48, Tryd.ntmps48
  go_wp2_with (go_at_call 38; refine (within_any _ _ _).mono ?_; rintro e w' ⟨rfl, rfl⟩)
  exact bodyPost_ret (v := .tuple #[.agg #[.int .i64 7, .int .i64 3, .int .i64 1, .int .i64 0], .bool true]) (by simp [results, Tryd.results48, go_sem, tab]) rfl ⟨rfl, HB.out _ _⟩
theorem row_2 (w : World) (hG : Laid w) : Calls Tryd.prog 48 #[.int .i64 2] w fun e w' => e = .returned (.tuple #[.agg #[.int .i64 8, .int .i64 3, .int .i64 1, .int .i64 0], .bool true]) ∧ Below w.heap.size w w' := by
  have hb : ∀ c1 t, Below w.heap.size w (w.alloc (.cells c1 t)) := fun c1 t => (Below.refl _ _).alloc (Nat.le_refl _) _
  have HB := Lib.hid hb
  clear hb
  have c0 := fun o => (hG.alloc o).cells 8 (by omega)
  have c1 := fun o => (hG.alloc o).cells 9 (by omega)
  have c2 := fun o => (hG.alloc o).cells 10 (by omega)
  have c3 := fun o => (hG.alloc o).cells 11 (by omega)
  clear hG
  go_enter Tryd.func48, Tryd.ntmps48
  go_wp2_with (go_at_call 38; refine (within_any _ _ _).mono ?_; rintro e w' ⟨rfl, rfl⟩)
  exact bodyPost_ret (v := .tuple #[.agg #[.int .i64 8, .int .i64 3, .int .i64 1, .int .i64 0], .bool true]) (by simp [results, Tryd.results48, go_sem, tab]) rfl ⟨rfl, HB.out _ _⟩
theorem row_3 (w : World) (hG : Laid w) : Calls Tryd.prog 48 #[.int .i64 3] w fun e w' => e = .returned (.tuple #[.agg #[.int .i64 9, .int .i64 4, .int .i64 1, .int .i64 1], .bool true]) ∧ Below w.heap.size w w' := by
  have hb : ∀ c1 t, Below w.heap.size w (w.alloc (.cells c1 t)) := fun c1 t => (Below.refl _ _).alloc (Nat.le_refl _) _
  have HB := Lib.hid hb
  clear hb
  have c0 := fun o => (hG.alloc o).cells 12 (by omega)
  have c1 := fun o => (hG.alloc o).cells 13 (by omega)
  have c2 := fun o => (hG.alloc o).cells 14 (by omega)
  have c3 := fun o => (hG.alloc o).cells 15 (by omega)
  clear hG
  go_enter Tryd.func48, Tryd.ntmps48
  go_wp2_with (go_at_call 38; refine (within_any _ _ _).mono ?_; rintro e w' ⟨rfl, rfl⟩)
  exact bodyPost_ret (v := .tuple #[.agg #[.int .i64 9, .int .i64 4, .int .i64 1, .int .i64 1], .bool true]) (by simp [results, Tryd.results48, go_sem, tab]) rfl ⟨rfl, HB.out _ _⟩
theorem row_4 (w : World) (hG : Laid w) : Calls Tryd.prog 48 #[.int .i64 4] w fun e w' => e = .returned (.tuple #[.agg #[.int .i64 10, .int .i64 4, .int .i64 1, .int .i64 2], .bool true]) ∧ Below w.heap.size w w' := by
  have hb : ∀ c1 t, Below w.heap.size w (w.alloc (.cells c1 t)) := fun c1 t => (Below.refl _ _).alloc (Nat.le_refl _) _
  have HB := Lib.hid hb
  clear hb
  have c0 := fun o => (hG.alloc o).cells 16 (by omega)
  have c1 := fun o => (hG.alloc o).cells 17 (by omega)
  have c2 := fun o => (hG.alloc o).cells 18 (by omega)
  have c3 := fun o => (hG.alloc o).cells 19 (by omega)
  clear hG
  go_enter Tryd.func48, Tryd.ntmps48
  go_wp2_with (go_at_call 38; refine (within_any _ _ _).mono ?_; rintro e w' ⟨rfl, rfl⟩)
  exact bodyPost_ret (v := .tuple #[.agg #[.int .i64 10, .int .i64 4, .int .i64 1, .int .i64 2], .bool true]) (by simp [results, Tryd.results48, go_sem, tab]) rfl ⟨rfl, HB.out _ _⟩
theorem row_5 (w : World) (hG : Laid w) : Calls Tryd.prog 48 #[.int .i64 5] w fun e w' => e = .returned (.tuple #[.agg #[.int .i64 11, .int .i64 4, .int .i64 1, .int .i64 3], .bool true]) ∧ Below w.heap.size w w' := by
  have hb : ∀ c1 t, Below w.heap.size w (w.alloc (.cells c1 t)) := fun c1 t => (Below.refl _ _).alloc (Nat.le_refl _) _
  have HB := Lib.hid hb
  clear hb
  have c0 := fun o => (hG.alloc o).cells 20 (by omega)
  have c1 := fun o => (hG.alloc o).cells 21 (by omega)
  have c2 := fun o => (hG.alloc o).cells 22 (by omega)
  have c3 := fun o => (hG.alloc o).cells 23 (by omega)
  clear hG
  go_enter Tryd.func48, Tryd.ntmps48
  go_wp2_with (go_at_call 38; refine (within_any _ _ _).mono ?_; rintro e w' ⟨rfl, rfl⟩)
  exact bodyPost_ret (v := .tuple #[.agg #[.int .i64 11, .int .i64 4, .int .i64 1, .int .i64 3], .bool true]) (by simp [results, Tryd.results48, go_sem, tab]) rfl ⟨rfl, HB.out _ _⟩
theorem row_6 (w : World) (hG : Laid w) : Calls Tryd.prog 48 #[.int .i64 6] w fun e w' => e = .returned (.tuple #[.agg #[.int .i64 12, .int .i64 5, .int .i64 2, .int .i64 0], .bool true]) ∧ Below w.heap.size w w' := by
  have hb : ∀ c1 t, Below w.heap.size w (w.alloc (.cells c1 t)) := fun c1 t => (Below.refl _ _).alloc (Nat.le_refl _) _
  have HB := Lib.hid hb
  clear hb
  have c0 := fun o => (hG.alloc o).cells 24 (by omega)
  have c1 := fun o => (hG.alloc o).cells 25 (by omega)
  have c2 := fun o => (hG.alloc o).cells 26 (by omega)
  have c3 := fun o => (hG.alloc o).cells 27 (by omega)
  clear hG
  go_enter Tryd.func48, Tryd.ntmps48
  go_wp2_with (go_at_call 38; refine (within_any _ _ _).mono ?_; rintro e w' ⟨rfl, rfl⟩)
  exact bodyPost_ret (v := .tuple #[.agg #[.int .i64 12, .int .i64 5, .int .i64 2, .int .i64 0], .bool true]) (by simp [results, Tryd.results48, go_sem, tab]) rfl ⟨rfl, HB.out _ _⟩
theorem row_7 (w : World) (hG : Laid w) : Calls Tryd.prog 48 #[.int .i64 7] w fun e w' => e = .returned (.tuple #[.agg #[.int .i64 13, .int .i64 5, .int .i64 2, .int .i64 0], .bool true]) ∧ Below w.heap.size w w' := by
  have hb : ∀ c1 t, Below w.heap.size w (w.alloc (.cells c1 t)) := fun c1 t => (Below.refl _ _).alloc (Nat.le_refl _) _
  have HB := Lib.hid hb
  clear hb
  have c0 := fun o => (hG.alloc o).cells 28 (by omega)
  have c1 := fun o => (hG.alloc o).cells 29 (by omega)
  have c2 := fun o => (hG.alloc o).cells 30 (by omega)
  have c3 := fun o => (hG.alloc o).cells 31 (by omega)
  clear hG
  go_enter Tryd.func48, Tryd.ntmps48
  go_wp2_with (go_at_call 38; refine (within_any _ _ _).mono ?_; rintro e w' ⟨rfl, rfl⟩)
  exact bodyPost_ret (v := .tuple #[.agg #[.int .i64 13, .int .i64 5, .int .i64 2, .int .i64 0], .bool true]) (by simp [results, Tryd.results48, go_sem, tab]) rfl ⟨rfl, HB.out _ _⟩
theorem row_8 (w : World) (hG : Laid w) : Calls Tryd.prog 48 #[.int .i64 8] w fun e w' => e = .returned (.tuple #[.agg #[.int .i64 14, .int .i64 6, .int .i64 2, .int .i64 0], .bool true]) ∧ Below w.heap.size w w' := by
  have hb : ∀ c1 t, Below w.heap.size w (w.alloc (.cells c1 t)) := fun c1 t => (Below.refl _ _).alloc (Nat.le_refl _) _
  have HB := Lib.hid hb
  clear hb
  have c0 := fun o => (hG.alloc o).cells 32 (by omega)
  have c1 := fun o => (hG.alloc o).cells 33 (by omega)
  have c2 := fun o => (hG.alloc o).cells 34 (by omega)
  have c3 := fun o => (hG.alloc o).cells 35 (by omega)
  clear hG
  go_enter Tryd.func48, Tryd.ntmps48
  go_wp2_with (go_at_call 38; refine (within_any _ _ _).mono ?_; rintro e w' ⟨rfl, rfl⟩)
  exact bodyPost_ret (v := .tuple #[.agg #[.int .i64 14, .int .i64 6, .int .i64 2, .int .i64 0], .bool true]) (by simp [results, Tryd.results48, go_sem, tab]) rfl ⟨rfl, HB.out _ _⟩
theorem row_9 (w : World) (hG : Laid w) : Calls Tryd.prog 48 #[.int .i64 9] w fun e w' => e = .returned (.tuple #[.agg #[.int .i64 15, .int .i64 6, .int .i64 2, .int .i64 0], .bool true]) ∧ Below w.heap.size w w' := by
  have hb : ∀ c1 t, Below w.heap.size w (w.alloc (.cells c1 t)) := fun c1 t => (Below.refl _ _).alloc (Nat.le_refl _) _
  have HB := Lib.hid hb
  clear hb
  have c0 := fun o => (hG.alloc o).cells 36 (by omega)
  have c1 := fun o => (hG.alloc o).cells 37 (by omega)
  have c2 := fun o => (hG.alloc o).cells 38 (by omega)
  have c3 := fun o => (hG.alloc o).cells 39 (by omega)
  clear hG
  go_enter Tryd.func48, Tryd.ntmps48
  go_wp2_with (go_at_call 38; refine (within_any _ _ _).mono ?_; rintro e w' ⟨rfl, rfl⟩)
  exact bodyPost_ret (v := .tuple #[.agg #[.int .i64 15, .int .i64 6, .int .i64 2, .int .i64 0], .bool true]) (by simp [results, Tryd.results48, go_sem, tab]) rfl ⟨rfl, HB.out _ _⟩
theorem row_10 (w : World) (hG : Laid w) : Calls Tryd.prog 48 #[.int .i64 10] w fun e w' => e = .returned (.tuple #[.agg #[.int .i64 16, .int .i64 7, .int .i64 2, .int .i64 0], .bool true]) ∧ Below w.heap.size w w' := by
  have hb : ∀ c1 t, Below w.heap.size w (w.alloc (.cells c1 t)) := fun c1 t => (Below.refl _ _).alloc (Nat.le_refl _) _
  have HB := Lib.hid hb
  clear hb
  have c0 := fun o => (hG.alloc o).cells 40 (by omega)
  have c1 := fun o => (hG.alloc o).cells 41 (by omega)
  have c2 := fun o => (hG.alloc o).cells 42 (by omega)
  have c3 := fun o => (hG.alloc o).cells 43 (by omega)
  clear hG
  go_enter Tryd.func48, Tryd.ntmps48
  go_wp2_with (go_at_call 38; refine (within_any _ _ _).mono ?_; rintro e w' ⟨rfl, rfl⟩)
  exact bodyPost_ret (v := .tuple #[.agg #[.int .i64 16, .int .i64 7, .int .i64 2, .int .i64 0], .bool true]) (by simp [results, Tryd.results48, go_sem, tab]) rfl ⟨rfl, HB.out _ _⟩
theorem power_1_0 (w : World) (hG : Laid w) : Calls Tryd.prog 45 #[.int .i64 1, .int .i64 0] w fun e w' => e = .returned (.int .i64 128) ∧ Below w.heap.size w w' := by
  have HG := Lib.hid hG
  clear hG
  go_enter Tryd.func45, Tryd.ntmps45
  go_wp2_with (go_at_call 48; refine (row_1 _ HG.out).mono ?_; rintro e w1 ⟨rfl, hb⟩; have HW := Lib.hid hb; clear hb)
  go_ret
  exact ⟨rfl, HW.out.alloc HW.out.size _⟩
theorem power_1_1 (w : World) (hG : Laid w) : Calls Tryd.prog 45 #[.int .i64 1, .int .i64 1] w fun e w' => e = .returned (.int .i64 8) ∧ Below w.heap.size w w' := by
  have HG := Lib.hid hG
  clear hG
  go_enter Tryd.func45, Tryd.ntmps45
  go_wp2_with (go_at_call 48; refine (row_1 _ HG.out).mono ?_; rintro e w1 ⟨rfl, hb⟩; have HW := Lib.hid hb; clear hb)
  go_ret
  exact ⟨rfl, HW.out.alloc HW.out.size _⟩
theorem power_2_0 (w : World) (hG : Laid w) : Calls Tryd.prog 45 #[.int .i64 2, .int .i64 0] w fun e w' => e = .returned (.int .i64 256) ∧ Below w.heap.size w w' := by
  have HG := Lib.hid hG
  clear hG
  go_enter Tryd.func45, Tryd.ntmps45
  go_wp2_with (go_at_call 48; refine (row_2 _ HG.out).mono ?_; rintro e w1 ⟨rfl, hb⟩; have HW := Lib.hid hb; clear hb)
  go_ret
  exact ⟨rfl, HW.out.alloc HW.out.size _⟩
theorem power_2_1 (w : World) (hG : Laid w) : Calls Tryd.prog 45 #[.int .i64 2, .int .i64 1] w fun e w' => e = .returned (.int .i64 8) ∧ Below w.heap.size w w' := by
  have HG := Lib.hid hG
  clear hG
  go_enter Tryd.func45, Tryd.ntmps45
  go_wp2_with (go_at_call 48; refine (row_2 _ HG.out).mono ?_; rintro e w1 ⟨rfl, hb⟩; have HW := Lib.hid hb; clear hb)
  go_ret
  exact ⟨rfl, HW.out.alloc HW.out.size _⟩
theorem power_3_0 (w : World) (hG : Laid w) : Calls Tryd.prog 45 #[.int .i64 3, .int .i64 0] w fun e w' => e = .returned (.int .i64 512) ∧ Below w.heap.size w w' := by
  have HG := Lib.hid hG
  clear hG
  go_enter Tryd.func45, Tryd.ntmps45
  go_wp2_with (go_at_call 48; refine (row_3 _ HG.out).mono ?_; rintro e w1 ⟨rfl, hb⟩; have HW := Lib.hid hb; clear hb)
  go_ret
  exact ⟨rfl, HW.out.alloc HW.out.size _⟩
theorem power_3_1 (w : World) (hG : Laid w) : Calls Tryd.prog 45 #[.int .i64 3, .int .i64 1] w fun e w' => e = .returned (.int .i64 16) ∧ Below w.heap.size w w' := by
  have HG := Lib.hid hG
  clear hG
  go_enter Tryd.func45, Tryd.ntmps45
  go_wp2_with (go_at_call 48; refine (row_3 _ HG.out).mono ?_; rintro e w1 ⟨rfl, hb⟩; have HW := Lib.hid hb; clear hb)
  go_ret
  exact ⟨rfl, HW.out.alloc HW.out.size _⟩
theorem power_4_0 (w : World) (hG : Laid w) : Calls Tryd.prog 45 #[.int .i64 4, .int .i64 0] w fun e w' => e = .returned (.int .i64 1024) ∧ Below w.heap.size w w' := by
  have HG := Lib.hid hG
  clear hG
  go_enter Tryd.func45, Tryd.ntmps45
  go_wp2_with (go_at_call 48; refine (row_4 _ HG.out).mono ?_; rintro e w1 ⟨rfl, hb⟩; have HW := Lib.hid hb; clear hb)
  go_ret
  exact ⟨rfl, HW.out.alloc HW.out.size _⟩
theorem power_4_1 (w : World) (hG : Laid w) : Calls Tryd.prog 45 #[.int .i64 4, .int .i64 1] w fun e w' => e = .returned (.int .i64 16) ∧ Below w.heap.size w w' := by
  have HG := Lib.hid hG
  clear hG
  go_enter Tryd.func45, Tryd.ntmps45
  go_wp2_with (go_at_call 48; refine (row_4 _ HG.out).mono ?_; rintro e w1 ⟨rfl, hb⟩; have HW := Lib.hid hb; clear hb)
  go_ret
  exact ⟨rfl, HW.out.alloc HW.out.size _⟩
theorem power_5_0 (w : World) (hG : Laid w) : Calls Tryd.prog 45 #[.int .i64 5, .int .i64 0] w fun e w' => e = .returned (.int .i64 2048) ∧ Below w.heap.size w w' := by
  have HG := Lib.hid hG
  clear hG
  go_enter Tryd.func45, Tryd.ntmps45
  go_wp2_with (go_at_call 48; refine (row_5 _ HG.out).mono ?_; rintro e w1 ⟨rfl, hb⟩; have HW := Lib.hid hb; clear hb)
  go_ret
  exact ⟨rfl, HW.out.alloc HW.out.size _⟩
theorem power_5_1 (w : World) (hG : Laid w) : Calls Tryd.prog 45 #[.int .i64 5, .int .i64 1] w fun e w' => e = .returned (.int .i64 16) ∧ Below w.heap.size w w' := by
  have HG := Lib.hid hG
  clear hG
  go_enter Tryd.func45, Tryd.ntmps45
  go_wp2_with (go_at_call 48; refine (row_5 _ HG.out).mono ?_; rintro e w1 ⟨rfl, hb⟩; have HW := Lib.hid hb; clear hb)
  go_ret
  exact ⟨rfl, HW.out.alloc HW.out.size _⟩
theorem power_6_0 (w : World) (hG : Laid w) : Calls Tryd.prog 45 #[.int .i64 6, .int .i64 0] w fun e w' => e = .returned (.int .i64 4096) ∧ Below w.heap.size w w' := by
  have HG := Lib.hid hG
  clear hG
  go_enter Tryd.func45, Tryd.ntmps45
  go_wp2_with (go_at_call 48; refine (row_6 _ HG.out).mono ?_; rintro e w1 ⟨rfl, hb⟩; have HW := Lib.hid hb; clear hb)
  go_ret
  exact ⟨rfl, HW.out.alloc HW.out.size _⟩
theorem power_6_1 (w : World) (hG : Laid w) : Calls Tryd.prog 45 #[.int .i64 6, .int .i64 1] w fun e w' => e = .returned (.int .i64 32) ∧ Below w.heap.size w w' := by
  have HG := Lib.hid hG
  clear hG
  go_enter Tryd.func45, Tryd.ntmps45
  go_wp2_with (go_at_call 48; refine (row_6 _ HG.out).mono ?_; rintro e w1 ⟨rfl, hb⟩; have HW := Lib.hid hb; clear hb)
  go_ret
  exact ⟨rfl, HW.out.alloc HW.out.size _⟩
theorem power_7_0 (w : World) (hG : Laid w) : Calls Tryd.prog 45 #[.int .i64 7, .int .i64 0] w fun e w' => e = .returned (.int .i64 8192) ∧ Below w.heap.size w w' := by
  have HG := Lib.hid hG
  clear hG
  go_enter Tryd.func45, Tryd.ntmps45
  go_wp2_with (go_at_call 48; refine (row_7 _ HG.out).mono ?_; rintro e w1 ⟨rfl, hb⟩; have HW := Lib.hid hb; clear hb)
  go_ret
  exact ⟨rfl, HW.out.alloc HW.out.size _⟩
theorem power_7_1 (w : World) (hG : Laid w) : Calls Tryd.prog 45 #[.int .i64 7, .int .i64 1] w fun e w' => e = .returned (.int .i64 32) ∧ Below w.heap.size w w' := by
  have HG := Lib.hid hG
  clear hG
  go_enter Tryd.func45, Tryd.ntmps45
  go_wp2_with (go_at_call 48; refine (row_7 _ HG.out).mono ?_; rintro e w1 ⟨rfl, hb⟩; have HW := Lib.hid hb; clear hb)
  go_ret
  exact ⟨rfl, HW.out.alloc HW.out.size _⟩
theorem power_8_0 (w : World) (hG : Laid w) : Calls Tryd.prog 45 #[.int .i64 8, .int .i64 0] w fun e w' => e = .returned (.int .i64 16384) ∧ Below w.heap.size w w' := by
  have HG := Lib.hid hG
  clear hG
  go_enter Tryd.func45, Tryd.ntmps45
  go_wp2_with (go_at_call 48; refine (row_8 _ HG.out).mono ?_; rintro e w1 ⟨rfl, hb⟩; have HW := Lib.hid hb; clear hb)
  go_ret
  exact ⟨rfl, HW.out.alloc HW.out.size _⟩
theorem power_8_1 (w : World) (hG : Laid w) : Calls Tryd.prog 45 #[.int .i64 8, .int .i64 1] w fun e w' => e = .returned (.int .i64 64) ∧ Below w.heap.size w w' := by
  have HG := Lib.hid hG
  clear hG
  go_enter Tryd.func45, Tryd.ntmps45
  go_wp2_with (go_at_call 48; refine (row_8 _ HG.out).mono ?_; rintro e w1 ⟨rfl, hb⟩; have HW := Lib.hid hb; clear hb)
  go_ret
  exact ⟨rfl, HW.out.alloc HW.out.size _⟩
theorem power_9_0 (w : World) (hG : Laid w) : Calls Tryd.prog 45 #[.int .i64 9, .int .i64 0] w fun e w' => e = .returned (.int .i64 32768) ∧ Below w.heap.size w w' := by
  have HG := Lib.hid hG
  clear hG
  go_enter Tryd.func45, Tryd.ntmps45
  go_wp2_with (go_at_call 48; refine (row_9 _ HG.out).mono ?_; rintro e w1 ⟨rfl, hb⟩; have HW := Lib.hid hb; clear hb)
  go_ret
  exact ⟨rfl, HW.out.alloc HW.out.size _⟩
theorem power_9_1 (w : World) (hG : Laid w) : Calls Tryd.prog 45 #[.int .i64 9, .int .i64 1] w fun e w' => e = .returned (.int .i64 64) ∧ Below w.heap.size w w' := by
  have HG := Lib.hid hG
  clear hG
  go_enter Tryd.func45, Tryd.ntmps45
  go_wp2_with (go_at_call 48; refine (row_9 _ HG.out).mono ?_; rintro e w1 ⟨rfl, hb⟩; have HW := Lib.hid hb; clear hb)
  go_ret
  exact ⟨rfl, HW.out.alloc HW.out.size _⟩
theorem power_10_0 (w : World) (hG : Laid w) : Calls Tryd.prog 45 #[.int .i64 10, .int .i64 0] w fun e w' => e = .returned (.int .i64 65536) ∧ Below w.heap.size w w' := by
  have HG := Lib.hid hG
  clear hG
  go_enter Tryd.func45, Tryd.ntmps45
  go_wp2_with (go_at_call 48; refine (row_10 _ HG.out).mono ?_; rintro e w1 ⟨rfl, hb⟩; have HW := Lib.hid hb; clear hb)
  go_ret
  exact ⟨rfl, HW.out.alloc HW.out.size _⟩
theorem power_10_1 (w : World) (hG : Laid w) : Calls Tryd.prog 45 #[.int .i64 10, .int .i64 1] w fun e w' => e = .returned (.int .i64 128) ∧ Below w.heap.size w w' := by
  have HG := Lib.hid hG
  clear hG
  go_enter Tryd.func45, Tryd.ntmps45
  go_wp2_with (go_at_call 48; refine (row_10 _ HG.out).mono ?_; rintro e w1 ⟨rfl, hb⟩; have HW := Lib.hid hb; clear hb)
  go_ret
  exact ⟨rfl, HW.out.alloc HW.out.size _⟩
theorem power_no (k : Int) (h : ¬ (1 ≤ k ∧ k ≤ 10)) (c : Int) (w : World) : Calls Tryd.prog 45 #[.int .i64 k, .int .i64 c] w fun e w' => e = .returned (.int .i64 0) ∧ Below w.heap.size w w' := by
  have HN := Lib.hid h
  clear h
  go_enter Tryd.func45, Tryd.ntmps45
  go_wp2_with (go_at_call 48; refine (row_no k HN.out _).mono ?_; rintro e w1 ⟨rfl, hb⟩; have HW := Lib.hid hb; clear hb)
  go_ret
  exact ⟨rfl, HW.out.alloc HW.out.size _⟩
/-- A column of a kind. -/
def col (k : Int) (c : Nat) : Int := if 1 ≤ k ∧ k ≤ 10 then tab.getD (4 * k.toNat + c) 0 else 0
def pow (k : Int) (c : Nat) : Int := if 1 ≤ k ∧ k ≤ 10 then 2 ^ (tab.getD (4 * k.toNat + c) 0).toNat else 0
def geo_power.f (a0 : Int) (a1 : Int) : Option Int := if a1 = 0 then some (pow a0 0) else if a1 = 1 then some (pow a0 1) else none
theorem ten (k : Int) (h : 1 ≤ k ∧ k ≤ 10) : k = 1 ∨ k = 2 ∨ k = 3 ∨ k = 4 ∨ k = 5 ∨ k = 6 ∨ k = 7 ∨ k = 8 ∨ k = 9 ∨ k = 10 := by omega
theorem power_at0 (k : Int) (w : World) (hG : Laid w) : Calls Tryd.prog 45 #[.int .i64 k, .int .i64 0] w fun e w' => e = .returned (.int .i64 (pow k 0)) ∧ Below w.heap.size w w' := by
  by_cases h : 1 ≤ k ∧ k ≤ 10
  · rcases ten k h with rfl | rfl | rfl | rfl | rfl | rfl | rfl | rfl | rfl | rfl
    · exact power_1_0 w hG
    · exact power_2_0 w hG
    · exact power_3_0 w hG
    · exact power_4_0 w hG
    · exact power_5_0 w hG
    · exact power_6_0 w hG
    · exact power_7_0 w hG
    · exact power_8_0 w hG
    · exact power_9_0 w hG
    · exact power_10_0 w hG
  · unfold pow
    rw [if_neg h]
    exact power_no k h 0 w
theorem power_at1 (k : Int) (w : World) (hG : Laid w) : Calls Tryd.prog 45 #[.int .i64 k, .int .i64 1] w fun e w' => e = .returned (.int .i64 (pow k 1)) ∧ Below w.heap.size w w' := by
  by_cases h : 1 ≤ k ∧ k ≤ 10
  · rcases ten k h with rfl | rfl | rfl | rfl | rfl | rfl | rfl | rfl | rfl | rfl
    · exact power_1_1 w hG
    · exact power_2_1 w hG
    · exact power_3_1 w hG
    · exact power_4_1 w hG
    · exact power_5_1 w hG
    · exact power_6_1 w hG
    · exact power_7_1 w hG
    · exact power_8_1 w hG
    · exact power_9_1 w hG
    · exact power_10_1 w hG
  · unfold pow
    rw [if_neg h]
    exact power_no k h 1 w
theorem geo_power.calls (a0 : Int) (a1 : Int) (r : Int) (w : World) (hG : Laid w) (h : geo_power.f a0 a1 = some r) : Calls Tryd.prog 45 #[.int .i64 a0, .int .i64 a1] w fun e w' => e = .returned (.int .i64 r) ∧ Below w.heap.size w w' := by
  unfold geo_power.f at h
  split at h
  · rename_i h0; injection h with h; subst h; subst h0; exact power_at0 a0 w hG
  · split at h
    · rename_i h0; injection h with h; subst h; subst h0; exact power_at1 a0 w hG
    · cases h

end Go.Proofs.YtmlldfkmmmncgaaDoor.Given
