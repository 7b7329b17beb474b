-- written by a program of mine (xprint_patch.py over the kit's print)
import Derived.Test.YtoiiphlhdnlniaaAx0
import Derived.Test.YtoiiphlhdnlniaaAx3
import Derived.Test.YtoiiphlhdnlniaaAx4
namespace Go.Proofs.Ytoiiphlhdnlniaa.Given
end Go.Proofs.Ytoiiphlhdnlniaa.Given
namespace Go.Proofs.Ytoiiphlhdnlniaa.All
open Go.Proofs.Ytoiiphlhdnlniaa.Given
open Go.RowKit Go.Proofs.YtoiiphlhdnlniaaW.PrintWords Go.Proofs.YtoiiphlhdnlniaaW.PrintLast Go.Proofs.YtoiiphlhdnlniaaW.PrintMore
attribute [local go_sem] max2_int min2_int max_two min_two max_three min_three max_four min_four   -- for this text's walks alone
set_option linter.unusedVariables false
set_option linter.unusedSimpArgs false

/-! ### keepsakeref21_Parse: function 10 -/
mutual
def keepsakeref21_Parse.j0 : Nat → List Int → Bool → Option (Int × Int × Int × Int × Int × List Int × Int)
 | 0, _, _ => none
 | k + 1, x0, x32 => if x32 = true then (some (0, 0, 0, 0, 0, ([] : List Int), 6)) else (if 4 < (x0.length : Int) then (if (rd x0 4) = 1 then (if 5 < (x0.length : Int) then (if 6 < (x0.length : Int) then (if 7 < (x0.length : Int) then (if 8 < (x0.length : Int) then (if 9 < (x0.length : Int) then ((keepsakeref20_Right.f (wrap64 (rd x0 5)) (wrap64 (rd x0 6)) (wrap64 (rd x0 7)) (wrap64 (rd x0 8)) (wrap64 (rd x0 9)) ([] : List Int)).bind fun t188 => (if t188 = true then (if 10 < (x0.length : Int) then (if (rd x0 10) = 0 then (if 11 < (x0.length : Int) then (keepsakeref21_Parse.j1 k x0 ((rd x0 11) != 0) (wrap64 (rd x0 5)) (wrap64 (rd x0 6)) (wrap64 (rd x0 7)) (wrap64 (rd x0 8)) (wrap64 (rd x0 9))) else (none)) else (keepsakeref21_Parse.j1 k x0 true (wrap64 (rd x0 5)) (wrap64 (rd x0 6)) (wrap64 (rd x0 7)) (wrap64 (rd x0 8)) (wrap64 (rd x0 9)))) else (none)) else (keepsakeref21_Parse.j1 k x0 true (wrap64 (rd x0 5)) (wrap64 (rd x0 6)) (wrap64 (rd x0 7)) (wrap64 (rd x0 8)) (wrap64 (rd x0 9))))) else (none)) else (none)) else (none)) else (none)) else (none)) else (some (0, 0, 0, 0, 0, ([] : List Int), 7))) else (none))
def keepsakeref21_Parse.j1 : Nat → List Int → Bool → Int → Int → Int → Int → Int → Option (Int × Int × Int × Int × Int × List Int × Int)
 | 0, _, _, _, _, _, _, _ => none
 | k + 1, x0, x77, x185000, x185001, x185002, x185003, x185004 => if x77 = true then (some (0, 0, 0, 0, 0, ([] : List Int), 13)) else ((keepsakeref20_Long.f x185000 x185001 x185002 x185003 x185004 ([] : List Int)).bind fun t191 => (if (x0.length : Int) < (wrap64 (16 + t191)) then (some (0, 0, 0, 0, 0, ([] : List Int), 5)) else ((keepsakeref20_Long.f x185000 x185001 x185002 x185003 x185004 ([] : List Int)).bind fun t192 => (if (x0.length : Int) > (wrap64 (16 + t192)) then (some (0, 0, 0, 0, 0, ([] : List Int), 14)) else ((some (([] : List Int) : List Int)).bind fun y193 => (if 12 ≤ (x0.length : Int) then (if y193.length + (x0.take 12).length < 140737488355328 then ((some (y193 ++ (x0.take 12) : List Int)).bind fun y197 => (if 16 ≤ (x0.length : Int) then (if y197.length + (x0.drop 16).length < 140737488355328 then (if 12 ≤ 16 then ((keepsakeref04_Number.f k ((x0.take 16).drop 12)).bind fun t205 => ((keepsakeref01_Sum.f k (y197 ++ (x0.drop 16))).bind fun t206 => (if t205 = (IntKind.u64.wrap (t206)) then ((some (([] : List Int) : List Int)).bind fun y207 => (if y207.length + (x0.drop 16).length < 140737488355328 then (some (x185000, x185001, x185002, x185003, x185004, (y207 ++ (x0.drop 16)), 0)) else (none))) else (some (0, 0, 0, 0, 0, ([] : List Int), 8))))) else (none)) else (none)) else (none))) else (none)) else (none)))))))
end
def keepsakeref21_Parse.f (k : Nat) (l0 : List Int) : Option (Int × Int × Int × Int × Int × List Int × Int) := if (l0.length : Int) < 16 then (some (0, 0, 0, 0, 0, ([] : List Int), 5)) else (if 0 < (l0.length : Int) then (if (rd l0 0) = 67 then (if 1 < (l0.length : Int) then (if (rd l0 1) = 65 then (if 2 < (l0.length : Int) then (if (rd l0 2) = 82 then (if 3 < (l0.length : Int) then (keepsakeref21_Parse.j0 k l0 ((rd l0 3) != 84)) else (none)) else (keepsakeref21_Parse.j0 k l0 true)) else (none)) else (keepsakeref21_Parse.j0 k l0 true)) else (none)) else (keepsakeref21_Parse.j0 k l0 true)) else (none))
theorem keepsakeref21_Parse.mono_l : ∀ k, (∀ y0 y1, LeO (keepsakeref21_Parse.j0 k y0 y1) (keepsakeref21_Parse.j0 (k + 1) y0 y1)) ∧ (∀ y0 y1 y2 y3 y4 y5 y6, LeO (keepsakeref21_Parse.j1 k y0 y1 y2 y3 y4 y5 y6) (keepsakeref21_Parse.j1 (k + 1) y0 y1 y2 y3 y4 y5 y6))
 | 0 => ⟨fun _ _ r h => by simp [keepsakeref21_Parse.j0] at h, fun _ _ _ _ _ _ _ r h => by simp [keepsakeref21_Parse.j1] at h⟩
 | k + 1 => by
  obtain ⟨ih0, ih1⟩ := keepsakeref21_Parse.mono_l k
  refine ⟨?_, ?_⟩
  · intro y0 y1
    unfold keepsakeref21_Parse.j0
    repeat' first
    | (with_reducible exact ih0 _ _)
    | (with_reducible exact ih1 _ _ _ _ _ _ _)
    | (with_reducible exact keepsakeref01_Sum.mono _ _)
    | (with_reducible exact keepsakeref04_Number.mono _ _)
    | (with_reducible exact LeO.refl _)
    | (with_reducible exact LeO.none _)
    | (with_reducible refine LeO.ite ?_ ?_)
    | (with_reducible refine LeO.bind ?_ (fun _ => ?_))
    | exact ih0 _ _
    | exact ih1 _ _ _ _ _ _ _
    | exact keepsakeref01_Sum.mono _ _
    | exact keepsakeref04_Number.mono _ _
    | exact LeO.none _
    | refine LeO.ite ?_ ?_
    | refine LeO.bind ?_ (fun _ => ?_)
  · intro y0 y1 y2 y3 y4 y5 y6
    unfold keepsakeref21_Parse.j1
    repeat' first
    | (with_reducible exact ih0 _ _)
    | (with_reducible exact ih1 _ _ _ _ _ _ _)
    | (with_reducible exact keepsakeref01_Sum.mono _ _)
    | (with_reducible exact keepsakeref04_Number.mono _ _)
    | (with_reducible exact LeO.refl _)
    | (with_reducible exact LeO.none _)
    | (with_reducible refine LeO.ite ?_ ?_)
    | (with_reducible refine LeO.bind ?_ (fun _ => ?_))
    | exact ih0 _ _
    | exact ih1 _ _ _ _ _ _ _
    | exact keepsakeref01_Sum.mono _ _
    | exact keepsakeref04_Number.mono _ _
    | exact LeO.none _
    | refine LeO.ite ?_ ?_
    | refine LeO.bind ?_ (fun _ => ?_)
theorem keepsakeref21_Parse.mono : ∀ a0 k, LeO (keepsakeref21_Parse.f k a0) (keepsakeref21_Parse.f (k + 1) a0) := by
 intro a0 k
 obtain ⟨ih0, ih1⟩ := keepsakeref21_Parse.mono_l k
 unfold keepsakeref21_Parse.f
 repeat' first
  | (with_reducible exact ih0 _ _)
  | (with_reducible exact ih1 _ _ _ _ _ _ _)
  | (with_reducible exact keepsakeref01_Sum.mono _ _)
  | (with_reducible exact keepsakeref04_Number.mono _ _)
  | (with_reducible exact LeO.refl _)
  | (with_reducible exact LeO.none _)
  | (with_reducible refine LeO.ite ?_ ?_)
  | (with_reducible refine LeO.bind ?_ (fun _ => ?_))
  | exact ih0 _ _
  | exact ih1 _ _ _ _ _ _ _
  | exact keepsakeref01_Sum.mono _ _
  | exact keepsakeref04_Number.mono _ _
  | exact LeO.none _
  | refine LeO.ite ?_ ?_
  | refine LeO.bind ?_ (fun _ => ?_)
def keepsakeref21_Parse.T7 : Bool × List (List Nat × List Nat) := (true, [([], []), ([0], [0]), ([1], [1]), ([2], [2]), ([], []), ([4], [4]), ([5], [5]), ([6], [6]), ([3, 7], [3, 7]), ([], []), ([9, 8, 0, 1, 2, 3, 4, 5, 6, 7, 8, 9], [8, 9])])
def keepsakeref21_Parse.B7 : List Nat := [0, 1, 3, 7, 0, 16, 48, 112, 255, 0, 1023]
theorem keepsakeref21_Parse.tab7 : rtab .any (opsOf Try.f10 7) = keepsakeref21_Parse.T7 := by kernel_rfl
theorem keepsakeref21_Parse.bits7 : waitsOk keepsakeref21_Parse.T7.2 keepsakeref21_Parse.B7 = true := by kernel_rfl
def keepsakeref21_Parse.T8 : Bool × List (List Nat × List Nat) := (true, [([], []), ([0], [0]), ([1], [1]), ([2], [2]), ([], []), ([4], [4]), ([5], [5]), ([6], [6]), ([], []), ([8], [8]), ([9], [9]), ([10], [10]), ([3, 7, 11], [3, 7, 11]), ([0, 1, 2, 3, 4, 5, 6, 7, 8, 9, 10, 11, 12], []), ([13, 12, 0, 1, 2, 3, 4, 5, 6, 7, 8, 9, 10, 11, 12], [12, 13])])
def keepsakeref21_Parse.B8 : List Nat := [0, 1, 3, 7, 0, 16, 48, 112, 0, 256, 768, 1792, 4095, 8191, 16383]
theorem keepsakeref21_Parse.tab8 : rtab .any (opsOf Try.f10 8) = keepsakeref21_Parse.T8 := by kernel_rfl
theorem keepsakeref21_Parse.bits8 : waitsOk keepsakeref21_Parse.T8.2 keepsakeref21_Parse.B8 = true := by kernel_rfl
def keepsakeref21_Parse.T16 : Bool × List (List Nat × List Nat) := (true, [([], []), ([], []), ([1], [1]), ([0, 2], [0, 2]), ([], []), ([4], [4]), ([3, 5, 3], [3, 5]), ([6, 6, 0, 1, 2, 3, 4, 5, 6], [6])])
def keepsakeref21_Parse.B16 : List Nat := [0, 0, 2, 7, 0, 16, 63, 127]
theorem keepsakeref21_Parse.tab16 : rtab .any (opsOf Try.f10 16) = keepsakeref21_Parse.T16 := by kernel_rfl
theorem keepsakeref21_Parse.bits16 : waitsOk keepsakeref21_Parse.T16.2 keepsakeref21_Parse.B16 = true := by kernel_rfl
set_option maxHeartbeats 8000000 in
set_option maxRecDepth 100000 in
theorem keepsakeref21_Parse.calls (k : Nat) (A0 : Option Addr) (c0 : Nat) (l0 : List Int) (r1 : Int) (r2 : Int) (r3 : Int) (r4 : Int) (r5 : Int) (r6 : List Int) (r7 : Int) (w : World) (hr0 : Kd.C (Kd.int .u8) w A0 l0.length l0) (hc0 : l0.length ≤ c0) (h : keepsakeref21_Parse.f k l0 = some (r1, r2, r3, r4, r5, r6, r7)) :
 Calls Try.prog 10 #[.slice A0 l0.length c0] w fun e w' => ∃ v5_ : Value, e = .returned (.tuple #[.agg #[.int .i64 r1, .int .i64 r2, .int .i64 r3, .int .i64 r4, .int .i64 r5, v5_], .int .i64 r7]) ∧ Kd.R (Kd.int .u8) 5 w' w.heap.size (fun _ => True) v5_ r6 ∧ Below w.heap.size w w' := by
 have hu27 := Try.underlying27
 have hu25 := Try.underlying25
 have HR0 := Aside0.mk hr0
 have HC0 := Aside0.mk hc0
 clear hr0 hc0
 have HB := Aside0.mk (Below.refl w.heap.size w)
 have H : (if (l0.length : Int) < 16 then (some (0, 0, 0, 0, 0, ([] : List Int), 5)) else (if 0 < (l0.length : Int) then (if (rd l0 0) = 67 then (if 1 < (l0.length : Int) then (if (rd l0 1) = 65 then (if 2 < (l0.length : Int) then (if (rd l0 2) = 82 then (if 3 < (l0.length : Int) then (keepsakeref21_Parse.j0 k l0 ((rd l0 3) != 84)) else (none)) else (keepsakeref21_Parse.j0 k l0 true)) else (none)) else (keepsakeref21_Parse.j0 k l0 true)) else (none)) else (keepsakeref21_Parse.j0 k l0 true)) else (none))) = some (r1, r2, r3, r4, r5, r6, r7) := h
 clear h
 by_cases c2 : (l0.length : Int) < 16
 · rw [if_pos c2] at H
   have c2b0 : decide ((l0.length : Int) < 16) = true := decide_eq_true c2
   have c2b1 : decide (l0.length < 16) = true := decide_eq_true (by omega)
   clear c2
   simp only [Option.some.injEq, Prod.mk.injEq] at H
   obtain ⟨rfl, rfl, rfl, rfl, rfl, rfl, rfl⟩ := H
   go_enter Try.func10, Try.ntmps10
   go_wp2_with (first | ((with_reducible refine gate_dst (N := 2) rfl ?_); refine box_event ?hg (N := 2) ?hd (cs := #[.int .i64 0, .int .i64 0, .int .i64 0, .int .i64 0, .int .i64 0, .slice none 0 0]) (t := 27) ?hr ?_; (case hd => rfl); (case hg => rfl); (case hr => first | (go_simp; done) | (go_simp; rfl)); intro gb176 hg w3 hbox hb; have n0_ := Aside0.mk (below_step (by repeat (first | (with_reducible first | exact HB.out | apply below_alloc | apply pw_below_drewN | apply below_drew1) | exact HB.out)) hb); have n1_ := Aside0.mk (hbox); have n2_ := Aside0.mk ((by rw [hg]; exact (below_size (by repeat (first | (with_reducible first | exact HB.out | apply below_alloc | apply pw_below_drewN | apply below_drew1) | exact HB.out))) : w.heap.size ≤ gb176)); have n3_ := Aside0.mk ((by rw [hg]; exact (below_size (by repeat (first | (with_reducible first | exact HB.out | apply below_alloc | apply pw_below_drewN | apply below_drew1) | exact HB.out))) : w.heap.size ≤ gb176)); clear HB; have HB := n0_; have BK176 := n1_; have GW176 := n2_; have GE176 := n3_; clear n0_ n1_ n2_ n3_; clear hb hbox hg; have hcz4_0 : w3.cell? ⟨gb176, 0, none⟩ = some (.int .i64 0) := (blk_cell BK176.out 0).trans rfl; have hcz4_1 : w3.cell? ⟨gb176, 1, none⟩ = some (.int .i64 0) := (blk_cell BK176.out 1).trans rfl; have hcz4_2 : w3.cell? ⟨gb176, 2, none⟩ = some (.int .i64 0) := (blk_cell BK176.out 2).trans rfl; have hcz4_3 : w3.cell? ⟨gb176, 3, none⟩ = some (.int .i64 0) := (blk_cell BK176.out 3).trans rfl; have hcz4_4 : w3.cell? ⟨gb176, 4, none⟩ = some (.int .i64 0) := (blk_cell BK176.out 4).trans rfl; have hcz4_5 : w3.cell? ⟨gb176, 5, none⟩ = some (.slice none 0 0) := (blk_cell BK176.out 5).trans rfl; have hfz4_0 := blk_frozen BK176.out 0; have hfz4_1 := blk_frozen BK176.out 1; have hfz4_2 := blk_frozen BK176.out 2; have hfz4_3 := blk_frozen BK176.out 3; have hfz4_4 := blk_frozen BK176.out 4; have hfz4_5 := blk_frozen BK176.out 5))
   refine bodyPost_ret (results_ct rfl _ _ gb176 27 #[.int .i64 0, .int .i64 0, .int .i64 0, .int .i64 0, .int .i64 0, .slice none 0 0] (0, 0) _ rfl (by (with_reducible repeat (first | refine blk_drewN ?_ _ | refine blk_drew ?_ | refine blk_alloc ?_ _)); refine blk_put (cs := #[.int .i64 0, .int .i64 0, .int .i64 0, .int .i64 0, .int .i64 0, .slice none 0 0]) ?_ 5 _ rfl; (with_reducible repeat (first | refine blk_drewN ?_ _ | refine blk_drew ?_ | refine blk_alloc ?_ _)); refine blk_put (cs := #[.int .i64 0, .int .i64 0, .int .i64 0, .int .i64 0, .int .i64 0, .slice none 0 0]) ?_ 4 _ rfl; (with_reducible repeat (first | refine blk_drewN ?_ _ | refine blk_drew ?_ | refine blk_alloc ?_ _)); refine blk_put (cs := #[.int .i64 0, .int .i64 0, .int .i64 0, .int .i64 0, .int .i64 0, .slice none 0 0]) ?_ 3 _ rfl; (with_reducible repeat (first | refine blk_drewN ?_ _ | refine blk_drew ?_ | refine blk_alloc ?_ _)); refine blk_put (cs := #[.int .i64 0, .int .i64 0, .int .i64 0, .int .i64 0, .int .i64 0, .slice none 0 0]) ?_ 2 _ rfl; (with_reducible repeat (first | refine blk_drewN ?_ _ | refine blk_drew ?_ | refine blk_alloc ?_ _)); refine blk_put (cs := #[.int .i64 0, .int .i64 0, .int .i64 0, .int .i64 0, .int .i64 0, .slice none 0 0]) ?_ 1 _ rfl; (with_reducible repeat (first | refine blk_drewN ?_ _ | refine blk_drew ?_ | refine blk_alloc ?_ _)); refine blk_put (cs := #[.int .i64 0, .int .i64 0, .int .i64 0, .int .i64 0, .int .i64 0, .slice none 0 0]) ?_ 0 _ rfl; (with_reducible repeat (first | refine blk_drewN ?_ _ | refine blk_drew ?_ | refine blk_alloc ?_ _)); exact BK176.out) Try.underlying27 rfl (by kernel_rfl)) rfl ?_
   exact ⟨_, by first | rfl | (simp [errW_none, errW_some] <;> rfl) | (simp [*, errW_none, errW_some] <;> rfl), by first | exact Kd.R_nil _ _ _ _ _ | exact Kd.N_nil _ _ _ _ _ | exact Kd.V_nil _ _ _ _ _ | exact Kd.Q_nil _ _ _ _ _ | exact Kd.S_nil _ _ _ _ _, by repeat (first | (with_reducible first | exact HB.out | apply below_alloc | apply pw_below_drewN | apply below_drew1 | refine below_set ?_ GE176.out) | exact HB.out)⟩
 · rw [if_neg c2] at H
   have c2b0 : decide ((l0.length : Int) < 16) = false := decide_eq_false c2
   have c2b1 : decide (l0.length < 16) = false := decide_eq_false (by omega)
   clear c2
   have HC5 := Aside0.mk H
   clear H
   go_enter Try.func10, Try.ntmps10
   go_upto_region 3 with (first | ((with_reducible refine gate_dst (N := 2) rfl ?_); refine box_event ?hg (N := 2) ?hd (cs := #[.int .i64 0, .int .i64 0, .int .i64 0, .int .i64 0, .int .i64 0, .slice none 0 0]) (t := 27) ?hr ?_; (case hd => rfl); (case hg => rfl); (case hr => first | (go_simp; done) | (go_simp; rfl)); intro gb176 hg w6 hbox hb; have n0_ := Aside0.mk (below_step (by repeat (first | (with_reducible first | exact HB.out | apply below_alloc | apply pw_below_drewN | apply below_drew1) | exact HB.out)) hb); have n1_ := Aside0.mk (hbox); have n2_ := Aside0.mk ((by rw [hg]; exact (below_size (by repeat (first | (with_reducible first | exact HB.out | apply below_alloc | apply pw_below_drewN | apply below_drew1) | exact HB.out))) : w.heap.size ≤ gb176)); have n3_ := Aside0.mk ((by rw [hg]; exact (below_size (by repeat (first | (with_reducible first | exact HB.out | apply below_alloc | apply pw_below_drewN | apply below_drew1) | exact HB.out))) : w.heap.size ≤ gb176)); clear HB; have HB := n0_; have BK176 := n1_; have GW176 := n2_; have GE176 := n3_; clear n0_ n1_ n2_ n3_; clear hb hbox hg))
   (try simp only [Act.put, List.setIfInBounds_toArray, List.set_cons_zero, List.set_cons_succ])
   go_cut [32] (fun v32 wc => ∃ (kq : Nat) (x32_4 : Bool), v32 = .bool x32_4 ∧ Aside0 (keepsakeref21_Parse.j0 kq l0 x32_4 = some (r1, r2, r3, r4, r5, r6, r7)) ∧ Aside0 (kq ≤ k) ∧ Aside0 (wc.heap[gb176]? = some (.cells #[.int .i64 0, .int .i64 0, .int .i64 0, .int .i64 0, .int .i64 0, (.slice none 0 0)] 27 (0, 0))) ∧ Aside0 (Below w.heap.size w wc))
   case first =>
    have H := HC5.out
    clear HC5
    by_cases c7 : 0 < (l0.length : Int)
    · rw [if_pos c7] at H
      have c7b0 : decide (0 < (l0.length : Int)) = true := decide_eq_true c7
      have c7b1 : decide (0 < l0.length) = true := decide_eq_true (by omega)
      clear c7
      (first | rw [c7b0] | (simp only [i64_w, i32_w]; rw [c7b0]) | skip)
      by_cases c8 : (rd l0 0) = 67
      · rw [if_pos c8] at H
        have c8b0 : ((rd l0 0) == 67) = true := beq_iff_eq.mpr c8
        have c8b1 : ((rd l0 0) != 67) = false := bne_eq_false_iff_eq.mpr c8
        clear c8
        by_cases c9 : 1 < (l0.length : Int)
        · rw [if_pos c9] at H
          have c9b0 : decide (1 < (l0.length : Int)) = true := decide_eq_true c9
          have c9b1 : decide (1 < l0.length) = true := decide_eq_true (by omega)
          clear c9
          by_cases c10 : (rd l0 1) = 65
          · rw [if_pos c10] at H
            have c10b0 : ((rd l0 1) == 65) = true := beq_iff_eq.mpr c10
            have c10b1 : ((rd l0 1) != 65) = false := bne_eq_false_iff_eq.mpr c10
            clear c10
            by_cases c11 : 2 < (l0.length : Int)
            · rw [if_pos c11] at H
              have c11b0 : decide (2 < (l0.length : Int)) = true := decide_eq_true c11
              have c11b1 : decide (2 < l0.length) = true := decide_eq_true (by omega)
              clear c11
              by_cases c12 : (rd l0 2) = 82
              · rw [if_pos c12] at H
                have c12b0 : ((rd l0 2) == 82) = true := beq_iff_eq.mpr c12
                have c12b1 : ((rd l0 2) != 82) = false := bne_eq_false_iff_eq.mpr c12
                clear c12
                by_cases c13 : 3 < (l0.length : Int)
                · rw [if_pos c13] at H
                  have c13b0 : decide (3 < (l0.length : Int)) = true := decide_eq_true c13
                  have c13b1 : decide (3 < l0.length) = true := decide_eq_true (by omega)
                  clear c13
                  have H' := Aside0.mk H
                  clear H
                  have p177 : 0 ≤ (0 : Int) := (by omega)
                  have q177 : 0 < (l0.length : Int) := of_decide_eq_true (by first | (with_reducible assumption) | assumption)
                  obtain ⟨ad177, e177, hx177_0⟩ := Kd.at_int HR0.out 0 p177 q177
                  cases e177
                  have qi177 : (0 < l0.length) = True := eq_true (by omega)
                  (try rw [show ((0 : Int)).toNat = 0 from rfl] at hx177_0)
                  (try rw [Addr.add_zero'] at hx177_0)
                  replace hx177_0 := (HB.out.cell (World.block_lt_of_cell? w _ hx177_0)).trans hx177_0
                  replace p177 := eq_true p177
                  replace q177 := eq_true q177
                  have p178 : 0 ≤ (1 : Int) := (by omega)
                  have q178 : 1 < (l0.length : Int) := of_decide_eq_true (by first | (with_reducible assumption) | assumption)
                  obtain ⟨ad178, e178, hx178_0⟩ := Kd.at_int HR0.out 1 p178 q178
                  obtain rfl : ad177 = ad178 := (by injection e178)
                  (try simp only [show (1 : Int).toNat = 1 from rfl, Nat.reduceMul, Nat.reduceEqDiff, Go.Addr.add, ↓reduceIte] at hx178_0)
                  have qi178 : (1 < l0.length) = True := eq_true (by omega)
                  (try rw [show ((1 : Int)).toNat = 1 from rfl] at hx178_0)
                  replace hx178_0 := (HB.out.cell (World.block_lt_of_cell? w _ hx178_0)).trans hx178_0
                  replace p178 := eq_true p178
                  replace q178 := eq_true q178
                  have p179 : 0 ≤ (2 : Int) := (by omega)
                  have q179 : 2 < (l0.length : Int) := of_decide_eq_true (by first | (with_reducible assumption) | assumption)
                  obtain ⟨ad179, e179, hx179_0⟩ := Kd.at_int HR0.out 2 p179 q179
                  obtain rfl : ad177 = ad179 := (by injection e179)
                  (try simp only [show (2 : Int).toNat = 2 from rfl, Nat.reduceMul, Nat.reduceEqDiff, Go.Addr.add, ↓reduceIte] at hx179_0)
                  have qi179 : (2 < l0.length) = True := eq_true (by omega)
                  (try rw [show ((2 : Int)).toNat = 2 from rfl] at hx179_0)
                  replace hx179_0 := (HB.out.cell (World.block_lt_of_cell? w _ hx179_0)).trans hx179_0
                  replace p179 := eq_true p179
                  replace q179 := eq_true q179
                  have p180 : 0 ≤ (3 : Int) := (by omega)
                  have q180 : 3 < (l0.length : Int) := of_decide_eq_true (by first | (with_reducible assumption) | assumption)
                  obtain ⟨ad180, e180, hx180_0⟩ := Kd.at_int HR0.out 3 p180 q180
                  obtain rfl : ad177 = ad180 := (by injection e180)
                  (try simp only [show (3 : Int).toNat = 3 from rfl, Nat.reduceMul, Nat.reduceEqDiff, Go.Addr.add, ↓reduceIte] at hx180_0)
                  have qi180 : (3 < l0.length) = True := eq_true (by omega)
                  (try rw [show ((3 : Int)).toNat = 3 from rfl] at hx180_0)
                  replace hx180_0 := (HB.out.cell (World.block_lt_of_cell? w _ hx180_0)).trans hx180_0
                  replace p180 := eq_true p180
                  replace q180 := eq_true q180
                  go_wp2
                  go_meet
                  case rel => exact ⟨_, (((rd l0 3) != 84)), (by first | rfl | (simp; done) | (simp [*]; done) | (simp; omega)), H', ⟨by first | omega | exact Nat.le_refl _⟩, ⟨by (with_reducible repeat (first | refine blk_drewN ?_ _ | refine blk_drew ?_ | refine blk_alloc ?_ _)); exact BK176.out⟩, ⟨by repeat (first | (with_reducible first | exact HB.out | apply below_alloc | apply pw_below_drewN | apply below_drew1 | refine below_set ?_ GE176.out) | exact HB.out)⟩⟩
                · rw [if_neg c13] at H
                  exact absurd H (by simp)
              · rw [if_neg c12] at H
                have c12b0 : ((rd l0 2) == 82) = false := beq_eq_false_iff_ne.mpr c12
                have c12b1 : ((rd l0 2) != 82) = true := bne_iff_ne.mpr c12
                have H' := Aside0.mk H
                clear H
                have p177 : 0 ≤ (0 : Int) := (by omega)
                have q177 : 0 < (l0.length : Int) := of_decide_eq_true (by first | (with_reducible assumption) | assumption)
                obtain ⟨ad177, e177, hx177_0⟩ := Kd.at_int HR0.out 0 p177 q177
                cases e177
                have qi177 : (0 < l0.length) = True := eq_true (by omega)
                (try rw [show ((0 : Int)).toNat = 0 from rfl] at hx177_0)
                (try rw [Addr.add_zero'] at hx177_0)
                replace hx177_0 := (HB.out.cell (World.block_lt_of_cell? w _ hx177_0)).trans hx177_0
                replace p177 := eq_true p177
                replace q177 := eq_true q177
                have p178 : 0 ≤ (1 : Int) := (by omega)
                have q178 : 1 < (l0.length : Int) := of_decide_eq_true (by first | (with_reducible assumption) | assumption)
                obtain ⟨ad178, e178, hx178_0⟩ := Kd.at_int HR0.out 1 p178 q178
                obtain rfl : ad177 = ad178 := (by injection e178)
                (try simp only [show (1 : Int).toNat = 1 from rfl, Nat.reduceMul, Nat.reduceEqDiff, Go.Addr.add, ↓reduceIte] at hx178_0)
                have qi178 : (1 < l0.length) = True := eq_true (by omega)
                (try rw [show ((1 : Int)).toNat = 1 from rfl] at hx178_0)
                replace hx178_0 := (HB.out.cell (World.block_lt_of_cell? w _ hx178_0)).trans hx178_0
                replace p178 := eq_true p178
                replace q178 := eq_true q178
                have p179 : 0 ≤ (2 : Int) := (by omega)
                have q179 : 2 < (l0.length : Int) := of_decide_eq_true (by first | (with_reducible assumption) | assumption)
                obtain ⟨ad179, e179, hx179_0⟩ := Kd.at_int HR0.out 2 p179 q179
                obtain rfl : ad177 = ad179 := (by injection e179)
                (try simp only [show (2 : Int).toNat = 2 from rfl, Nat.reduceMul, Nat.reduceEqDiff, Go.Addr.add, ↓reduceIte] at hx179_0)
                have qi179 : (2 < l0.length) = True := eq_true (by omega)
                (try rw [show ((2 : Int)).toNat = 2 from rfl] at hx179_0)
                replace hx179_0 := (HB.out.cell (World.block_lt_of_cell? w _ hx179_0)).trans hx179_0
                replace p179 := eq_true p179
                replace q179 := eq_true q179
                go_wp2
                go_meet
                case rel => exact ⟨_, (true), (by first | rfl | (simp; done) | (simp [*]; done) | (simp; omega)), H', ⟨by first | omega | exact Nat.le_refl _⟩, ⟨by (with_reducible repeat (first | refine blk_drewN ?_ _ | refine blk_drew ?_ | refine blk_alloc ?_ _)); exact BK176.out⟩, ⟨by repeat (first | (with_reducible first | exact HB.out | apply below_alloc | apply pw_below_drewN | apply below_drew1 | refine below_set ?_ GE176.out) | exact HB.out)⟩⟩
            · rw [if_neg c11] at H
              exact absurd H (by simp)
          · rw [if_neg c10] at H
            have c10b0 : ((rd l0 1) == 65) = false := beq_eq_false_iff_ne.mpr c10
            have c10b1 : ((rd l0 1) != 65) = true := bne_iff_ne.mpr c10
            have H' := Aside0.mk H
            clear H
            have p177 : 0 ≤ (0 : Int) := (by omega)
            have q177 : 0 < (l0.length : Int) := of_decide_eq_true (by first | (with_reducible assumption) | assumption)
            obtain ⟨ad177, e177, hx177_0⟩ := Kd.at_int HR0.out 0 p177 q177
            cases e177
            have qi177 : (0 < l0.length) = True := eq_true (by omega)
            (try rw [show ((0 : Int)).toNat = 0 from rfl] at hx177_0)
            (try rw [Addr.add_zero'] at hx177_0)
            replace hx177_0 := (HB.out.cell (World.block_lt_of_cell? w _ hx177_0)).trans hx177_0
            replace p177 := eq_true p177
            replace q177 := eq_true q177
            have p178 : 0 ≤ (1 : Int) := (by omega)
            have q178 : 1 < (l0.length : Int) := of_decide_eq_true (by first | (with_reducible assumption) | assumption)
            obtain ⟨ad178, e178, hx178_0⟩ := Kd.at_int HR0.out 1 p178 q178
            obtain rfl : ad177 = ad178 := (by injection e178)
            (try simp only [show (1 : Int).toNat = 1 from rfl, Nat.reduceMul, Nat.reduceEqDiff, Go.Addr.add, ↓reduceIte] at hx178_0)
            have qi178 : (1 < l0.length) = True := eq_true (by omega)
            (try rw [show ((1 : Int)).toNat = 1 from rfl] at hx178_0)
            replace hx178_0 := (HB.out.cell (World.block_lt_of_cell? w _ hx178_0)).trans hx178_0
            replace p178 := eq_true p178
            replace q178 := eq_true q178
            go_wp2
            go_meet
            case rel => exact ⟨_, (true), (by first | rfl | (simp; done) | (simp [*]; done) | (simp; omega)), H', ⟨by first | omega | exact Nat.le_refl _⟩, ⟨by (with_reducible repeat (first | refine blk_drewN ?_ _ | refine blk_drew ?_ | refine blk_alloc ?_ _)); exact BK176.out⟩, ⟨by repeat (first | (with_reducible first | exact HB.out | apply below_alloc | apply pw_below_drewN | apply below_drew1 | refine below_set ?_ GE176.out) | exact HB.out)⟩⟩
        · rw [if_neg c9] at H
          exact absurd H (by simp)
      · rw [if_neg c8] at H
        have c8b0 : ((rd l0 0) == 67) = false := beq_eq_false_iff_ne.mpr c8
        have c8b1 : ((rd l0 0) != 67) = true := bne_iff_ne.mpr c8
        have H' := Aside0.mk H
        clear H
        have p177 : 0 ≤ (0 : Int) := (by omega)
        have q177 : 0 < (l0.length : Int) := of_decide_eq_true (by first | (with_reducible assumption) | assumption)
        obtain ⟨ad177, e177, hx177_0⟩ := Kd.at_int HR0.out 0 p177 q177
        cases e177
        have qi177 : (0 < l0.length) = True := eq_true (by omega)
        (try rw [show ((0 : Int)).toNat = 0 from rfl] at hx177_0)
        (try rw [Addr.add_zero'] at hx177_0)
        replace hx177_0 := (HB.out.cell (World.block_lt_of_cell? w _ hx177_0)).trans hx177_0
        replace p177 := eq_true p177
        replace q177 := eq_true q177
        go_wp2
        go_meet
        case rel => exact ⟨_, (true), (by first | rfl | (simp; done) | (simp [*]; done) | (simp; omega)), H', ⟨by first | omega | exact Nat.le_refl _⟩, ⟨by (with_reducible repeat (first | refine blk_drewN ?_ _ | refine blk_drew ?_ | refine blk_alloc ?_ _)); exact BK176.out⟩, ⟨by repeat (first | (with_reducible first | exact HB.out | apply below_alloc | apply pw_below_drewN | apply below_drew1 | refine below_set ?_ GE176.out) | exact HB.out)⟩⟩
    · rw [if_neg c7] at H
      exact absurd H (by simp)
   case rest =>
    clear HC5
    try clear c1
    try clear p1
    try clear q1
    try clear hx1
    try clear qi1
    try clear c2
    try clear c2b0
    try clear c2b1
    try clear p2
    try clear c7
    try clear c7b0
    try clear c7b1
    try clear c8
    try clear c8b0
    try clear c8b1
    try clear c9
    try clear c9b0
    try clear c9b1
    try clear c10
    try clear c10b0
    try clear c10b1
    try clear c11
    try clear c11b0
    try clear c11b1
    try clear c12
    try clear c12b0
    try clear c12b1
    try clear c13
    try clear c13b0
    try clear c13b1
    try clear hcz4_0
    try clear hcz4_1
    try clear hcz4_2
    try clear hcz4_3
    try clear hcz4_4
    try clear hcz4_5
    try clear hfz4_0
    try clear hfz4_1
    try clear hfz4_2
    try clear hfz4_3
    try clear hfz4_4
    try clear hfz4_5
    try clear hx177_0
    try clear hx178_0
    try clear hx179_0
    try clear hx180_0
    try clear p177
    try clear p178
    try clear p179
    try clear p180
    try clear q177
    try clear q178
    try clear q179
    try clear q180
    obtain ⟨kq, x32_4, rfl, HA, HJ4, BK176, HB⟩ := hcut
    cases kq with
    | zero => exact absurd HA.out (by simp [keepsakeref21_Parse.j0])
    | succ kj4 =>
     have H := HA.out
     clear HA
     simp only [keepsakeref21_Parse.j0] at H
     by_cases c14 : x32_4 = true
     · subst c14
       have H1 : (some (0, 0, 0, 0, 0, ([] : List Int), 6)) = some (r1, r2, r3, r4, r5, r6, r7) := by rw [if_pos rfl] at H; exact H
       clear H
       have H := H1
       clear H1
       simp only [Option.some.injEq, Prod.mk.injEq] at H
       obtain ⟨rfl, rfl, rfl, rfl, rfl, rfl, rfl⟩ := H
       have hcz15_0 : wc.cell? ⟨gb176, 0, none⟩ = some (.int .i64 0) := (blk_cell BK176.out 0).trans rfl
       have hcz15_1 : wc.cell? ⟨gb176, 1, none⟩ = some (.int .i64 0) := (blk_cell BK176.out 1).trans rfl
       have hcz15_2 : wc.cell? ⟨gb176, 2, none⟩ = some (.int .i64 0) := (blk_cell BK176.out 2).trans rfl
       have hcz15_3 : wc.cell? ⟨gb176, 3, none⟩ = some (.int .i64 0) := (blk_cell BK176.out 3).trans rfl
       have hcz15_4 : wc.cell? ⟨gb176, 4, none⟩ = some (.int .i64 0) := (blk_cell BK176.out 4).trans rfl
       have hcz15_5 : wc.cell? ⟨gb176, 5, none⟩ = some (.slice none 0 0) := (blk_cell BK176.out 5).trans rfl
       have hfz15_0 := blk_frozen BK176.out 0
       have hfz15_1 := blk_frozen BK176.out 1
       have hfz15_2 := blk_frozen BK176.out 2
       have hfz15_3 := blk_frozen BK176.out 3
       have hfz15_4 := blk_frozen BK176.out 4
       have hfz15_5 := blk_frozen BK176.out 5
       go_wp2
       refine bodyPost_ret (results_ct rfl _ _ gb176 27 #[.int .i64 0, .int .i64 0, .int .i64 0, .int .i64 0, .int .i64 0, .slice none 0 0] (0, 0) _ rfl (by (with_reducible repeat (first | refine blk_drewN ?_ _ | refine blk_drew ?_ | refine blk_alloc ?_ _)); refine blk_put (cs := #[.int .i64 0, .int .i64 0, .int .i64 0, .int .i64 0, .int .i64 0, .slice none 0 0]) ?_ 5 _ rfl; (with_reducible repeat (first | refine blk_drewN ?_ _ | refine blk_drew ?_ | refine blk_alloc ?_ _)); refine blk_put (cs := #[.int .i64 0, .int .i64 0, .int .i64 0, .int .i64 0, .int .i64 0, .slice none 0 0]) ?_ 4 _ rfl; (with_reducible repeat (first | refine blk_drewN ?_ _ | refine blk_drew ?_ | refine blk_alloc ?_ _)); refine blk_put (cs := #[.int .i64 0, .int .i64 0, .int .i64 0, .int .i64 0, .int .i64 0, .slice none 0 0]) ?_ 3 _ rfl; (with_reducible repeat (first | refine blk_drewN ?_ _ | refine blk_drew ?_ | refine blk_alloc ?_ _)); refine blk_put (cs := #[.int .i64 0, .int .i64 0, .int .i64 0, .int .i64 0, .int .i64 0, .slice none 0 0]) ?_ 2 _ rfl; (with_reducible repeat (first | refine blk_drewN ?_ _ | refine blk_drew ?_ | refine blk_alloc ?_ _)); refine blk_put (cs := #[.int .i64 0, .int .i64 0, .int .i64 0, .int .i64 0, .int .i64 0, .slice none 0 0]) ?_ 1 _ rfl; (with_reducible repeat (first | refine blk_drewN ?_ _ | refine blk_drew ?_ | refine blk_alloc ?_ _)); refine blk_put (cs := #[.int .i64 0, .int .i64 0, .int .i64 0, .int .i64 0, .int .i64 0, .slice none 0 0]) ?_ 0 _ rfl; (with_reducible repeat (first | refine blk_drewN ?_ _ | refine blk_drew ?_ | refine blk_alloc ?_ _)); exact BK176.out) Try.underlying27 rfl (by kernel_rfl)) rfl ?_
       exact ⟨_, by first | rfl | (simp [errW_none, errW_some] <;> rfl) | (simp [*, errW_none, errW_some] <;> rfl), by first | exact Kd.R_nil _ _ _ _ _ | exact Kd.N_nil _ _ _ _ _ | exact Kd.V_nil _ _ _ _ _ | exact Kd.Q_nil _ _ _ _ _ | exact Kd.S_nil _ _ _ _ _, by repeat (first | (with_reducible first | exact HB.out | apply below_alloc | apply pw_below_drewN | apply below_drew1 | refine below_set ?_ GE176.out) | exact HB.out)⟩
     · replace c14 := Bool.eq_false_iff.mpr c14
       subst c14
       have H1 : (if 4 < (l0.length : Int) then (if (rd l0 4) = 1 then (if 5 < (l0.length : Int) then (if 6 < (l0.length : Int) then (if 7 < (l0.length : Int) then (if 8 < (l0.length : Int) then (if 9 < (l0.length : Int) then ((keepsakeref20_Right.f (wrap64 (rd l0 5)) (wrap64 (rd l0 6)) (wrap64 (rd l0 7)) (wrap64 (rd l0 8)) (wrap64 (rd l0 9)) ([] : List Int)).bind fun t188 => (if t188 = true then (if 10 < (l0.length : Int) then (if (rd l0 10) = 0 then (if 11 < (l0.length : Int) then (keepsakeref21_Parse.j1 kj4 l0 ((rd l0 11) != 0) (wrap64 (rd l0 5)) (wrap64 (rd l0 6)) (wrap64 (rd l0 7)) (wrap64 (rd l0 8)) (wrap64 (rd l0 9))) else (none)) else (keepsakeref21_Parse.j1 kj4 l0 true (wrap64 (rd l0 5)) (wrap64 (rd l0 6)) (wrap64 (rd l0 7)) (wrap64 (rd l0 8)) (wrap64 (rd l0 9)))) else (none)) else (keepsakeref21_Parse.j1 kj4 l0 true (wrap64 (rd l0 5)) (wrap64 (rd l0 6)) (wrap64 (rd l0 7)) (wrap64 (rd l0 8)) (wrap64 (rd l0 9))))) else (none)) else (none)) else (none)) else (none)) else (none)) else (some (0, 0, 0, 0, 0, ([] : List Int), 7))) else (none)) = some (r1, r2, r3, r4, r5, r6, r7) := by rw [if_neg (show ¬ (false = true) by decide)] at H; exact H
       clear H
       have H := H1
       clear H1
       by_cases c16 : 4 < (l0.length : Int)
       · rw [if_pos c16] at H
         have c16b0 : decide (4 < (l0.length : Int)) = true := decide_eq_true c16
         have c16b1 : decide (4 < l0.length) = true := decide_eq_true (by omega)
         clear c16
         by_cases c17 : (rd l0 4) = 1
         · rw [if_pos c17] at H
           have c17b0 : ((rd l0 4) == 1) = true := beq_iff_eq.mpr c17
           have c17b1 : ((rd l0 4) != 1) = false := bne_eq_false_iff_eq.mpr c17
           clear c17
           by_cases c18 : 5 < (l0.length : Int)
           · rw [if_pos c18] at H
             have c18b0 : decide (5 < (l0.length : Int)) = true := decide_eq_true c18
             have c18b1 : decide (5 < l0.length) = true := decide_eq_true (by omega)
             clear c18
             by_cases c19 : 6 < (l0.length : Int)
             · rw [if_pos c19] at H
               have c19b0 : decide (6 < (l0.length : Int)) = true := decide_eq_true c19
               have c19b1 : decide (6 < l0.length) = true := decide_eq_true (by omega)
               clear c19
               by_cases c20 : 7 < (l0.length : Int)
               · rw [if_pos c20] at H
                 have c20b0 : decide (7 < (l0.length : Int)) = true := decide_eq_true c20
                 have c20b1 : decide (7 < l0.length) = true := decide_eq_true (by omega)
                 clear c20
                 by_cases c21 : 8 < (l0.length : Int)
                 · rw [if_pos c21] at H
                   have c21b0 : decide (8 < (l0.length : Int)) = true := decide_eq_true c21
                   have c21b1 : decide (8 < l0.length) = true := decide_eq_true (by omega)
                   clear c21
                   by_cases c22 : 9 < (l0.length : Int)
                   · rw [if_pos c22] at H
                     have c22b0 : decide (9 < (l0.length : Int)) = true := decide_eq_true c22
                     have c22b1 : decide (9 < l0.length) = true := decide_eq_true (by omega)
                     clear c22
                     replace H := Option.bind_eq_some_iff.mp H
                     obtain ⟨t188, A230, H⟩ := H
                     replace H : (if t188 = true then (if 10 < (l0.length : Int) then (if (rd l0 10) = 0 then (if 11 < (l0.length : Int) then (keepsakeref21_Parse.j1 kj4 l0 ((rd l0 11) != 0) (wrap64 (rd l0 5)) (wrap64 (rd l0 6)) (wrap64 (rd l0 7)) (wrap64 (rd l0 8)) (wrap64 (rd l0 9))) else (none)) else (keepsakeref21_Parse.j1 kj4 l0 true (wrap64 (rd l0 5)) (wrap64 (rd l0 6)) (wrap64 (rd l0 7)) (wrap64 (rd l0 8)) (wrap64 (rd l0 9)))) else (none)) else (keepsakeref21_Parse.j1 kj4 l0 true (wrap64 (rd l0 5)) (wrap64 (rd l0 6)) (wrap64 (rd l0 7)) (wrap64 (rd l0 8)) (wrap64 (rd l0 9)))) = some (r1, r2, r3, r4, r5, r6, r7) := H
                     have A23 := Aside0.mk A230
                     clear A230
                     have HC24 := Aside0.mk H
                     clear H
                     have p181 : 0 ≤ (4 : Int) := (by omega)
                     have q181 : 4 < (l0.length : Int) := of_decide_eq_true (by first | (with_reducible assumption) | assumption)
                     obtain ⟨ad181, e181, hx181_0⟩ := Kd.at_int HR0.out 4 p181 q181
                     cases e181
                     (try simp only [show (4 : Int).toNat = 4 from rfl, Nat.reduceMul, Nat.reduceEqDiff, Go.Addr.add, ↓reduceIte] at hx181_0)
                     have qi181 : (4 < l0.length) = True := eq_true (by omega)
                     (try rw [show ((4 : Int)).toNat = 4 from rfl] at hx181_0)
                     replace hx181_0 := (HB.out.cell (World.block_lt_of_cell? w _ hx181_0)).trans hx181_0
                     replace p181 := eq_true p181
                     replace q181 := eq_true q181
                     try go_wp2
                     have n0_ := Aside0.mk (blk_drew BK176.out)
                     have n1_ := Aside0.mk (below_drew1 HB.out)
                     clear BK176
                     clear HB
                     have BK176 := n0_
                     have HB := n1_
                     clear n0_ n1_
                     have p182 : 0 ≤ (5 : Int) := (by omega)
                     have q182 : 5 < (l0.length : Int) := of_decide_eq_true (by first | (with_reducible assumption) | assumption)
                     obtain ⟨ad182, e182, hx182_0⟩ := Kd.at_int HR0.out 5 p182 q182
                     have hw182_0 := hx182_0
                     (try rw [show ((5 : Int)).toNat = 5 from rfl] at hw182_0)
                     (try rw [show 5 * 1 = 5 from rfl] at hw182_0)
                     (try simp only [Nat.reduceMul, Nat.reduceEqDiff, Go.Addr.add, ↓reduceIte] at hw182_0)
                     obtain rfl : ad181 = ad182 := (by injection e182)
                     (try simp only [show (5 : Int).toNat = 5 from rfl, Nat.reduceMul, Nat.reduceEqDiff, Go.Addr.add, ↓reduceIte] at hx182_0)
                     have qi182 : (5 < l0.length) = True := eq_true (by omega)
                     (try rw [show ((5 : Int)).toNat = 5 from rfl] at hx182_0)
                     replace hx182_0 := (HB.out.cell (World.block_lt_of_cell? w _ hx182_0)).trans hx182_0
                     replace p182 := eq_true p182
                     replace q182 := eq_true q182
                     have p183 : 0 ≤ (6 : Int) := (by omega)
                     have q183 : 6 < (l0.length : Int) := of_decide_eq_true (by first | (with_reducible assumption) | assumption)
                     obtain ⟨ad183, e183, hx183_0⟩ := Kd.at_int HR0.out 6 p183 q183
                     have hw183_0 := hx183_0
                     (try rw [show ((6 : Int)).toNat = 6 from rfl] at hw183_0)
                     (try rw [show 6 * 1 = 6 from rfl] at hw183_0)
                     (try simp only [Nat.reduceMul, Nat.reduceEqDiff, Go.Addr.add, ↓reduceIte] at hw183_0)
                     obtain rfl : ad181 = ad183 := (by injection e183)
                     (try simp only [show (6 : Int).toNat = 6 from rfl, Nat.reduceMul, Nat.reduceEqDiff, Go.Addr.add, ↓reduceIte] at hx183_0)
                     have qi183 : (6 < l0.length) = True := eq_true (by omega)
                     (try rw [show ((6 : Int)).toNat = 6 from rfl] at hx183_0)
                     replace hx183_0 := (HB.out.cell (World.block_lt_of_cell? w _ hx183_0)).trans hx183_0
                     replace p183 := eq_true p183
                     replace q183 := eq_true q183
                     refine start_ (n := 11) (S := fun w' => w'.cell? ⟨ad181.block, ad181.off + 5, none⟩ = some (.int .u8 (rd l0 5)) ∧ w'.cell? ⟨ad181.block, ad181.off + 6, none⟩ = some (.int .u8 (rd l0 6))) (ds := []) #[false, false, false, false, false, false, false, false, false, false, false] (by kernel_rfl) rfl rfl ⟨((HB.out.cell (World.block_lt_of_cell? w _ hw182_0)).trans hw182_0), ((HB.out.cell (World.block_lt_of_cell? w _ hw183_0)).trans hw183_0)⟩ (fun hHeld => ?_); refine with_tabW keepsakeref21_Parse.tab7 keepsakeref21_Parse.bits7 (fun HT_ HW_ => ?_)
                     generalize wc.drew = w25 at BK176 HB hx182_0 hx183_0 hHeld ⊢
                     refine pure_ (i := 0) (N := some 39) (v := ?_) (a' := ?_) #[true, false, false, false, false, false, false, false, false, false, false] rfl rfl (any_of HT_.out (by kernel_rfl)) (fun _ _ _ h => h) (Or.inl ⟨by rfl, ?_⟩) ?_ ?_
                     rotate_left
                     · intro w'
                       go_simp
                       with_reducible rfl
                     rotate_left
                     · simp only [Act.put, List.setIfInBounds_toArray, List.set_cons_zero, List.set_cons_succ, i64_w, i32_w]
                       rfl
                     refine pure_ (i := 1) (N := some 40) (v := ?_) (a' := ?_) #[true, true, false, false, false, false, false, false, false, false, false] rfl rfl (any_of HT_.out (by kernel_rfl)) (fun _ _ _ h => h) (Or.inl ⟨by rfl, ?_⟩) ?_ ?_
                     rotate_left
                     · intro w'
                       go_simp
                       with_reducible rfl
                     rotate_left
                     · simp only [Act.put, List.setIfInBounds_toArray, List.set_cons_zero, List.set_cons_succ, i64_w, i32_w]
                       rfl
                     refine pure_ (i := 4) (N := some 43) (v := ?_) (a' := ?_) #[true, true, false, false, true, false, false, false, false, false, false] rfl rfl (any_of HT_.out (by kernel_rfl)) (fun _ _ _ h => h) (Or.inl ⟨by rfl, ?_⟩) ?_ ?_
                     rotate_left
                     · intro w'
                       go_simp
                       with_reducible rfl
                     rotate_left
                     · simp only [Act.put, List.setIfInBounds_toArray, List.set_cons_zero, List.set_cons_succ, i64_w, i32_w]
                       rfl
                     refine pure_ (i := 5) (N := some 44) (v := ?_) (a' := ?_) #[true, true, false, false, true, true, false, false, false, false, false] rfl rfl (any_of HT_.out (by kernel_rfl)) (fun _ _ _ h => h) (Or.inl ⟨by rfl, ?_⟩) ?_ ?_
                     rotate_left
                     · intro w'
                       go_simp
                       with_reducible rfl
                     rotate_left
                     · simp only [Act.put, List.setIfInBounds_toArray, List.set_cons_zero, List.set_cons_succ, i64_w, i32_w]
                       rfl
                     refine take_ (i := 2) (N := some 41) (v := ?_) (a' := ?_) #[true, true, true, false, true, true, false, false, false, false, false] rfl rfl (take_ofW HT_.out HW_.out (by kernel_rfl)) (fun _ _ _ h => h) (Or.inl ⟨by rfl, ?_⟩) hHeld ?_ ?_
                     rotate_left
                     · rintro w' ⟨s0, s1⟩
                       go_simp
                       with_reducible rfl
                     rotate_left
                     · simp only [Act.put, List.setIfInBounds_toArray, List.set_cons_zero, List.set_cons_succ, i64_w, i32_w]
                       rfl
                     refine pure_ (i := 3) (N := some 42) (v := ?_) (a' := ?_) #[true, true, true, true, true, true, false, false, false, false, false] rfl rfl (any_of HT_.out (by kernel_rfl)) (fun _ _ _ h => h) (Or.inl ⟨by rfl, ?_⟩) ?_ ?_
                     rotate_left
                     · intro w'
                       go_simp
                       with_reducible rfl
                     rotate_left
                     · simp only [Act.put, List.setIfInBounds_toArray, List.set_cons_zero, List.set_cons_succ, i64_w, i32_w]
                       rfl
                     refine take_ (i := 6) (N := some 45) (v := ?_) (a' := ?_) #[true, true, true, true, true, true, true, false, false, false, false] rfl rfl (take_ofW HT_.out HW_.out (by kernel_rfl)) (fun _ _ _ h => h) (Or.inl ⟨by rfl, ?_⟩) hHeld ?_ ?_
                     rotate_left
                     · rintro w' ⟨s0, s1⟩
                       go_simp
                       with_reducible rfl
                     rotate_left
                     · simp only [Act.put, List.setIfInBounds_toArray, List.set_cons_zero, List.set_cons_succ, i64_w, i32_w]
                       rfl
                     refine pure_ (i := 7) (N := some 46) (v := ?_) (a' := ?_) #[true, true, true, true, true, true, true, true, false, false, false] rfl rfl (any_of HT_.out (by kernel_rfl)) (fun _ _ _ h => h) (Or.inl ⟨by rfl, ?_⟩) ?_ ?_
                     rotate_left
                     · intro w'
                       go_simp
                       with_reducible rfl
                     rotate_left
                     · simp only [Act.put, List.setIfInBounds_toArray, List.set_cons_zero, List.set_cons_succ, i64_w, i32_w]
                       rfl
                     refine pure_ (i := 8) (N := some 47) (v := ?_) (a' := ?_) #[true, true, true, true, true, true, true, true, true, false, false] rfl rfl (any_of HT_.out (by kernel_rfl)) (fun _ _ _ h => h) (Or.inl ⟨by rfl, ?_⟩) ?_ ?_
                     rotate_left
                     · intro w'
                       go_simp
                       with_reducible rfl
                     rotate_left
                     · simp only [Act.put, List.setIfInBounds_toArray, List.set_cons_zero, List.set_cons_succ, i64_w, i32_w]
                       rfl
                     refine one_ (i := 9) (N := some 4) #[true, true, true, true, true, true, true, true, true, true, false] rfl rfl (one_of HT_.out (by kernel_rfl)) (by decide) (fun K hK => ?_)
                     refine box_step ?hg (N := 4) ?hd (cs := #[.int .i64 0, .int .i64 0, .int .i64 0, .int .i64 0, .int .i64 0, .slice none 0 0]) (t := 27) ?hr ?_; (case hd => rfl); (case hg => rfl); (case hr => first | (go_simp; done) | (go_simp; rfl))
                     intro gb184 hg w26 hbox hb
                     have n0_ := Aside0.mk (blk_below (g := gb176) (o := .cells #[.int .i64 0, .int .i64 0, .int .i64 0, .int .i64 0, .int .i64 0, .slice none 0 0] 27 (0, 0)) (by (with_reducible repeat (first | refine blk_drewN ?_ _ | refine blk_drew ?_ | refine blk_alloc ?_ _)); exact BK176.out) hb)
                     have n1_ := Aside0.mk (below_step (by repeat (first | (with_reducible first | exact HB.out | apply below_alloc | apply pw_below_drewN | apply below_drew1 | refine below_set ?_ GE176.out) | exact HB.out)) hb)
                     have n2_ := Aside0.mk (hbox)
                     have n3_ := Aside0.mk ((by rw [hg]; exact (below_size (by repeat (first | (with_reducible first | exact HB.out | apply below_alloc | apply pw_below_drewN | apply below_drew1 | refine below_set ?_ GE176.out) | exact HB.out))) : w.heap.size ≤ gb184))
                     have n4_ := Aside0.mk ((by rw [hg]; exact (below_size (by repeat (first | (with_reducible first | exact HB.out | apply below_alloc | apply pw_below_drewN | apply below_drew1 | refine below_set ?_ GE176.out) | exact HB.out))) : w.heap.size ≤ gb184))
                     have n5_ := Aside0.mk ((by rw [hg]; exact Nat.ne_of_lt (blk_lt (g := gb176) (o := .cells #[.int .i64 0, .int .i64 0, .int .i64 0, .int .i64 0, .int .i64 0, .slice none 0 0] 27 (0, 0)) (by (with_reducible repeat (first | refine blk_drewN ?_ _ | refine blk_drew ?_ | refine blk_alloc ?_ _)); exact BK176.out)) : gb176 ≠ gb184))
                     have n6_ := Aside0.mk ((by rw [hg]; exact Nat.ne_of_gt (blk_lt (g := gb176) (o := .cells #[.int .i64 0, .int .i64 0, .int .i64 0, .int .i64 0, .int .i64 0, .slice none 0 0] 27 (0, 0)) (by (with_reducible repeat (first | refine blk_drewN ?_ _ | refine blk_drew ?_ | refine blk_alloc ?_ _)); exact BK176.out)) : gb184 ≠ gb176))
                     clear BK176
                     clear HB
                     have BK176 := n0_
                     have HB := n1_
                     have BK184 := n2_
                     have GW184 := n3_
                     have GE184 := n4_
                     have NB176_184 := n5_
                     have NB184_176 := n6_
                     clear n0_ n1_ n2_ n3_ n4_ n5_ n6_
                     clear hb hbox hg
                     refine hK.out _ _ ⟨((HB.out.cell (World.block_lt_of_cell? w _ hw182_0)).trans hw182_0), ((HB.out.cell (World.block_lt_of_cell? w _ hw183_0)).trans hw183_0)⟩ (fun hHeld => ?_)
                     clear hK K
                     refine norm_ (a' := ?_) ?_ ?_
                     rotate_left
                     · show Act.put _ (some 4) _ = _
                       simp only [Act.put, List.setIfInBounds_toArray, List.set_cons_zero, List.set_cons_succ, i64_w, i32_w]
                       rfl
                     refine one_ (i := 10) (N := none) #[true, true, true, true, true, true, true, true, true, true, true] rfl rfl (one_of HT_.out (by kernel_rfl)) (by decide) (fun K hK => ?_)
                     have hs27 : w26.cell? ⟨gb184, 0, none⟩ = some (.int .i64 0) := (blk_cell BK184.out 0).trans rfl
                     have hfs27 := blk_frozen BK184.out 0
                     have hns27_0 := NB176_184.out
                     have hms27_0 := NB184_176.out
                     have hs28 : w26.cell? ⟨gb184, 1, none⟩ = some (.int .i64 0) := (blk_cell BK184.out 1).trans rfl
                     have hfs28 := blk_frozen BK184.out 1
                     have hns28_0 := NB176_184.out
                     have hms28_0 := NB184_176.out
                     have hs29 : w26.cell? ⟨gb184, 2, none⟩ = some (.int .i64 0) := (blk_cell BK184.out 2).trans rfl
                     have hfs29 := blk_frozen BK184.out 2
                     have hns29_0 := NB176_184.out
                     have hms29_0 := NB184_176.out
                     have hs30 : w26.cell? ⟨gb184, 3, none⟩ = some (.int .i64 0) := (blk_cell BK184.out 3).trans rfl
                     have hfs30 := blk_frozen BK184.out 3
                     have hns30_0 := NB176_184.out
                     have hms30_0 := NB184_176.out
                     have hs31 : w26.cell? ⟨gb184, 4, none⟩ = some (.int .i64 0) := (blk_cell BK184.out 4).trans rfl
                     have hfs31 := blk_frozen BK184.out 4
                     have hns31_0 := NB176_184.out
                     have hms31_0 := NB184_176.out
                     have hs32 : w26.cell? ⟨gb184, 5, none⟩ = some (.slice none 0 0) := (blk_cell BK184.out 5).trans rfl
                     have hfs32 := blk_frozen BK184.out 5
                     have hns32_0 := NB176_184.out
                     have hms32_0 := NB184_176.out
                     refine skip_ (w1 := ?_) (by rfl) rfl ?_ ?_
                     rotate_left
                     · go_simp
                       rfl
                     refine hK.out _ _ ⟨((cell_far (p := ⟨gb184, _, none⟩) (by first | exact Nat.ne_of_lt (Nat.lt_of_lt_of_le (by have := World.block_lt_of_cell? _ _ hw182_0; first | rwa [add_block] at this | exact this) GW184.out) | (rw [add_block]; exact Nat.ne_of_lt (Nat.lt_of_lt_of_le (by have := World.block_lt_of_cell? _ _ hw182_0; first | rwa [add_block] at this | exact this) GW184.out)) | (show (Addr.add _ _).block ≠ _; rw [add_block]; exact Nat.ne_of_lt (Nat.lt_of_lt_of_le (by have := World.block_lt_of_cell? _ _ hw182_0; first | rwa [add_block] at this | exact this) GW184.out)) | (dsimp only; exact Nat.ne_of_lt (Nat.lt_of_lt_of_le (by have := World.block_lt_of_cell? _ _ hw182_0; first | rwa [add_block] at this | exact this) GW184.out))) _).trans (((cell_far (p := ⟨gb184, _, none⟩) (by first | exact Nat.ne_of_lt (Nat.lt_of_lt_of_le (by have := World.block_lt_of_cell? _ _ hw182_0; first | rwa [add_block] at this | exact this) GW184.out) | (rw [add_block]; exact Nat.ne_of_lt (Nat.lt_of_lt_of_le (by have := World.block_lt_of_cell? _ _ hw182_0; first | rwa [add_block] at this | exact this) GW184.out)) | (show (Addr.add _ _).block ≠ _; rw [add_block]; exact Nat.ne_of_lt (Nat.lt_of_lt_of_le (by have := World.block_lt_of_cell? _ _ hw182_0; first | rwa [add_block] at this | exact this) GW184.out)) | (dsimp only; exact Nat.ne_of_lt (Nat.lt_of_lt_of_le (by have := World.block_lt_of_cell? _ _ hw182_0; first | rwa [add_block] at this | exact this) GW184.out))) _).trans (((cell_far (p := ⟨gb184, _, none⟩) (by first | exact Nat.ne_of_lt (Nat.lt_of_lt_of_le (by have := World.block_lt_of_cell? _ _ hw182_0; first | rwa [add_block] at this | exact this) GW184.out) | (rw [add_block]; exact Nat.ne_of_lt (Nat.lt_of_lt_of_le (by have := World.block_lt_of_cell? _ _ hw182_0; first | rwa [add_block] at this | exact this) GW184.out)) | (show (Addr.add _ _).block ≠ _; rw [add_block]; exact Nat.ne_of_lt (Nat.lt_of_lt_of_le (by have := World.block_lt_of_cell? _ _ hw182_0; first | rwa [add_block] at this | exact this) GW184.out)) | (dsimp only; exact Nat.ne_of_lt (Nat.lt_of_lt_of_le (by have := World.block_lt_of_cell? _ _ hw182_0; first | rwa [add_block] at this | exact this) GW184.out))) _).trans (((cell_far (p := ⟨gb184, _, none⟩) (by first | exact Nat.ne_of_lt (Nat.lt_of_lt_of_le (by have := World.block_lt_of_cell? _ _ hw182_0; first | rwa [add_block] at this | exact this) GW184.out) | (rw [add_block]; exact Nat.ne_of_lt (Nat.lt_of_lt_of_le (by have := World.block_lt_of_cell? _ _ hw182_0; first | rwa [add_block] at this | exact this) GW184.out)) | (show (Addr.add _ _).block ≠ _; rw [add_block]; exact Nat.ne_of_lt (Nat.lt_of_lt_of_le (by have := World.block_lt_of_cell? _ _ hw182_0; first | rwa [add_block] at this | exact this) GW184.out)) | (dsimp only; exact Nat.ne_of_lt (Nat.lt_of_lt_of_le (by have := World.block_lt_of_cell? _ _ hw182_0; first | rwa [add_block] at this | exact this) GW184.out))) _).trans (((cell_far (p := ⟨gb184, _, none⟩) (by first | exact Nat.ne_of_lt (Nat.lt_of_lt_of_le (by have := World.block_lt_of_cell? _ _ hw182_0; first | rwa [add_block] at this | exact this) GW184.out) | (rw [add_block]; exact Nat.ne_of_lt (Nat.lt_of_lt_of_le (by have := World.block_lt_of_cell? _ _ hw182_0; first | rwa [add_block] at this | exact this) GW184.out)) | (show (Addr.add _ _).block ≠ _; rw [add_block]; exact Nat.ne_of_lt (Nat.lt_of_lt_of_le (by have := World.block_lt_of_cell? _ _ hw182_0; first | rwa [add_block] at this | exact this) GW184.out)) | (dsimp only; exact Nat.ne_of_lt (Nat.lt_of_lt_of_le (by have := World.block_lt_of_cell? _ _ hw182_0; first | rwa [add_block] at this | exact this) GW184.out))) _).trans (((cell_far (p := ⟨gb184, _, none⟩) (by first | exact Nat.ne_of_lt (Nat.lt_of_lt_of_le (by have := World.block_lt_of_cell? _ _ hw182_0; first | rwa [add_block] at this | exact this) GW184.out) | (rw [add_block]; exact Nat.ne_of_lt (Nat.lt_of_lt_of_le (by have := World.block_lt_of_cell? _ _ hw182_0; first | rwa [add_block] at this | exact this) GW184.out)) | (show (Addr.add _ _).block ≠ _; rw [add_block]; exact Nat.ne_of_lt (Nat.lt_of_lt_of_le (by have := World.block_lt_of_cell? _ _ hw182_0; first | rwa [add_block] at this | exact this) GW184.out)) | (dsimp only; exact Nat.ne_of_lt (Nat.lt_of_lt_of_le (by have := World.block_lt_of_cell? _ _ hw182_0; first | rwa [add_block] at this | exact this) GW184.out))) _).trans (hHeld.1)))))))))))), ((cell_far (p := ⟨gb184, _, none⟩) (by first | exact Nat.ne_of_lt (Nat.lt_of_lt_of_le (by have := World.block_lt_of_cell? _ _ hw183_0; first | rwa [add_block] at this | exact this) GW184.out) | (rw [add_block]; exact Nat.ne_of_lt (Nat.lt_of_lt_of_le (by have := World.block_lt_of_cell? _ _ hw183_0; first | rwa [add_block] at this | exact this) GW184.out)) | (show (Addr.add _ _).block ≠ _; rw [add_block]; exact Nat.ne_of_lt (Nat.lt_of_lt_of_le (by have := World.block_lt_of_cell? _ _ hw183_0; first | rwa [add_block] at this | exact this) GW184.out)) | (dsimp only; exact Nat.ne_of_lt (Nat.lt_of_lt_of_le (by have := World.block_lt_of_cell? _ _ hw183_0; first | rwa [add_block] at this | exact this) GW184.out))) _).trans (((cell_far (p := ⟨gb184, _, none⟩) (by first | exact Nat.ne_of_lt (Nat.lt_of_lt_of_le (by have := World.block_lt_of_cell? _ _ hw183_0; first | rwa [add_block] at this | exact this) GW184.out) | (rw [add_block]; exact Nat.ne_of_lt (Nat.lt_of_lt_of_le (by have := World.block_lt_of_cell? _ _ hw183_0; first | rwa [add_block] at this | exact this) GW184.out)) | (show (Addr.add _ _).block ≠ _; rw [add_block]; exact Nat.ne_of_lt (Nat.lt_of_lt_of_le (by have := World.block_lt_of_cell? _ _ hw183_0; first | rwa [add_block] at this | exact this) GW184.out)) | (dsimp only; exact Nat.ne_of_lt (Nat.lt_of_lt_of_le (by have := World.block_lt_of_cell? _ _ hw183_0; first | rwa [add_block] at this | exact this) GW184.out))) _).trans (((cell_far (p := ⟨gb184, _, none⟩) (by first | exact Nat.ne_of_lt (Nat.lt_of_lt_of_le (by have := World.block_lt_of_cell? _ _ hw183_0; first | rwa [add_block] at this | exact this) GW184.out) | (rw [add_block]; exact Nat.ne_of_lt (Nat.lt_of_lt_of_le (by have := World.block_lt_of_cell? _ _ hw183_0; first | rwa [add_block] at this | exact this) GW184.out)) | (show (Addr.add _ _).block ≠ _; rw [add_block]; exact Nat.ne_of_lt (Nat.lt_of_lt_of_le (by have := World.block_lt_of_cell? _ _ hw183_0; first | rwa [add_block] at this | exact this) GW184.out)) | (dsimp only; exact Nat.ne_of_lt (Nat.lt_of_lt_of_le (by have := World.block_lt_of_cell? _ _ hw183_0; first | rwa [add_block] at this | exact this) GW184.out))) _).trans (((cell_far (p := ⟨gb184, _, none⟩) (by first | exact Nat.ne_of_lt (Nat.lt_of_lt_of_le (by have := World.block_lt_of_cell? _ _ hw183_0; first | rwa [add_block] at this | exact this) GW184.out) | (rw [add_block]; exact Nat.ne_of_lt (Nat.lt_of_lt_of_le (by have := World.block_lt_of_cell? _ _ hw183_0; first | rwa [add_block] at this | exact this) GW184.out)) | (show (Addr.add _ _).block ≠ _; rw [add_block]; exact Nat.ne_of_lt (Nat.lt_of_lt_of_le (by have := World.block_lt_of_cell? _ _ hw183_0; first | rwa [add_block] at this | exact this) GW184.out)) | (dsimp only; exact Nat.ne_of_lt (Nat.lt_of_lt_of_le (by have := World.block_lt_of_cell? _ _ hw183_0; first | rwa [add_block] at this | exact this) GW184.out))) _).trans (((cell_far (p := ⟨gb184, _, none⟩) (by first | exact Nat.ne_of_lt (Nat.lt_of_lt_of_le (by have := World.block_lt_of_cell? _ _ hw183_0; first | rwa [add_block] at this | exact this) GW184.out) | (rw [add_block]; exact Nat.ne_of_lt (Nat.lt_of_lt_of_le (by have := World.block_lt_of_cell? _ _ hw183_0; first | rwa [add_block] at this | exact this) GW184.out)) | (show (Addr.add _ _).block ≠ _; rw [add_block]; exact Nat.ne_of_lt (Nat.lt_of_lt_of_le (by have := World.block_lt_of_cell? _ _ hw183_0; first | rwa [add_block] at this | exact this) GW184.out)) | (dsimp only; exact Nat.ne_of_lt (Nat.lt_of_lt_of_le (by have := World.block_lt_of_cell? _ _ hw183_0; first | rwa [add_block] at this | exact this) GW184.out))) _).trans (((cell_far (p := ⟨gb184, _, none⟩) (by first | exact Nat.ne_of_lt (Nat.lt_of_lt_of_le (by have := World.block_lt_of_cell? _ _ hw183_0; first | rwa [add_block] at this | exact this) GW184.out) | (rw [add_block]; exact Nat.ne_of_lt (Nat.lt_of_lt_of_le (by have := World.block_lt_of_cell? _ _ hw183_0; first | rwa [add_block] at this | exact this) GW184.out)) | (show (Addr.add _ _).block ≠ _; rw [add_block]; exact Nat.ne_of_lt (Nat.lt_of_lt_of_le (by have := World.block_lt_of_cell? _ _ hw183_0; first | rwa [add_block] at this | exact this) GW184.out)) | (dsimp only; exact Nat.ne_of_lt (Nat.lt_of_lt_of_le (by have := World.block_lt_of_cell? _ _ hw183_0; first | rwa [add_block] at this | exact this) GW184.out))) _).trans (hHeld.2))))))))))))⟩ (fun hHeld => ?_)
                     clear hK K
                     refine done_ (done_of HT_.out (by kernel_rfl)) ?_
                     try go_wp2
                     have n0_ : Aside0 (((((((w26.setCell ⟨gb184, 0, none⟩ (.int .i64 (wrap64 (rd l0 5)))).setCell ⟨gb184, 1, none⟩ (.int .i64 (wrap64 (rd l0 6)))).setCell ⟨gb184, 2, none⟩ (.int .i64 0)).setCell ⟨gb184, 3, none⟩ (.int .i64 0)).setCell ⟨gb184, 4, none⟩ (.int .i64 0)).setCell ⟨gb184, 5, none⟩ (.slice none 0 0)).heap[gb176]? = some (.cells #[.int .i64 0, .int .i64 0, .int .i64 0, .int .i64 0, .int .i64 0, .slice none 0 0] 27 (0, 0))) := ⟨by (with_reducible repeat (first | refine blk_drewN ?_ _ | refine blk_drew ?_ | refine blk_alloc ?_ _)); refine blk_far ?_ NB176_184.out _; (with_reducible repeat (first | refine blk_drewN ?_ _ | refine blk_drew ?_ | refine blk_alloc ?_ _)); refine blk_far ?_ NB176_184.out _; (with_reducible repeat (first | refine blk_drewN ?_ _ | refine blk_drew ?_ | refine blk_alloc ?_ _)); refine blk_far ?_ NB176_184.out _; (with_reducible repeat (first | refine blk_drewN ?_ _ | refine blk_drew ?_ | refine blk_alloc ?_ _)); refine blk_far ?_ NB176_184.out _; (with_reducible repeat (first | refine blk_drewN ?_ _ | refine blk_drew ?_ | refine blk_alloc ?_ _)); refine blk_far ?_ NB176_184.out _; (with_reducible repeat (first | refine blk_drewN ?_ _ | refine blk_drew ?_ | refine blk_alloc ?_ _)); refine blk_far ?_ NB176_184.out _; (with_reducible repeat (first | refine blk_drewN ?_ _ | refine blk_drew ?_ | refine blk_alloc ?_ _)); exact BK176.out⟩
                     have n1_ : Aside0 (((((((w26.setCell ⟨gb184, 0, none⟩ (.int .i64 (wrap64 (rd l0 5)))).setCell ⟨gb184, 1, none⟩ (.int .i64 (wrap64 (rd l0 6)))).setCell ⟨gb184, 2, none⟩ (.int .i64 0)).setCell ⟨gb184, 3, none⟩ (.int .i64 0)).setCell ⟨gb184, 4, none⟩ (.int .i64 0)).setCell ⟨gb184, 5, none⟩ (.slice none 0 0)).heap[gb184]? = some (.cells #[.int .i64 (wrap64 (rd l0 5)), .int .i64 (wrap64 (rd l0 6)), .int .i64 0, .int .i64 0, .int .i64 0, .slice none 0 0] 27 (0, 0))) := ⟨by (with_reducible repeat (first | refine blk_drewN ?_ _ | refine blk_drew ?_ | refine blk_alloc ?_ _)); refine blk_put (cs := #[.int .i64 (wrap64 (rd l0 5)), .int .i64 (wrap64 (rd l0 6)), .int .i64 0, .int .i64 0, .int .i64 0, .slice none 0 0]) ?_ 5 _ rfl; (with_reducible repeat (first | refine blk_drewN ?_ _ | refine blk_drew ?_ | refine blk_alloc ?_ _)); refine blk_put (cs := #[.int .i64 (wrap64 (rd l0 5)), .int .i64 (wrap64 (rd l0 6)), .int .i64 0, .int .i64 0, .int .i64 0, .slice none 0 0]) ?_ 4 _ rfl; (with_reducible repeat (first | refine blk_drewN ?_ _ | refine blk_drew ?_ | refine blk_alloc ?_ _)); refine blk_put (cs := #[.int .i64 (wrap64 (rd l0 5)), .int .i64 (wrap64 (rd l0 6)), .int .i64 0, .int .i64 0, .int .i64 0, .slice none 0 0]) ?_ 3 _ rfl; (with_reducible repeat (first | refine blk_drewN ?_ _ | refine blk_drew ?_ | refine blk_alloc ?_ _)); refine blk_put (cs := #[.int .i64 (wrap64 (rd l0 5)), .int .i64 (wrap64 (rd l0 6)), .int .i64 0, .int .i64 0, .int .i64 0, .slice none 0 0]) ?_ 2 _ rfl; (with_reducible repeat (first | refine blk_drewN ?_ _ | refine blk_drew ?_ | refine blk_alloc ?_ _)); refine blk_put (cs := #[.int .i64 (wrap64 (rd l0 5)), .int .i64 0, .int .i64 0, .int .i64 0, .int .i64 0, .slice none 0 0]) ?_ 1 _ rfl; (with_reducible repeat (first | refine blk_drewN ?_ _ | refine blk_drew ?_ | refine blk_alloc ?_ _)); refine blk_put (cs := #[.int .i64 0, .int .i64 0, .int .i64 0, .int .i64 0, .int .i64 0, .slice none 0 0]) ?_ 0 _ rfl; (with_reducible repeat (first | refine blk_drewN ?_ _ | refine blk_drew ?_ | refine blk_alloc ?_ _)); exact BK184.out⟩
                     have n2_ : Aside0 (Below w.heap.size w ((((((w26.setCell ⟨gb184, 0, none⟩ (.int .i64 (wrap64 (rd l0 5)))).setCell ⟨gb184, 1, none⟩ (.int .i64 (wrap64 (rd l0 6)))).setCell ⟨gb184, 2, none⟩ (.int .i64 0)).setCell ⟨gb184, 3, none⟩ (.int .i64 0)).setCell ⟨gb184, 4, none⟩ (.int .i64 0)).setCell ⟨gb184, 5, none⟩ (.slice none 0 0))) := ⟨by repeat (first | (with_reducible first | exact HB.out | apply below_alloc | apply pw_below_drewN | apply below_drew1 | refine below_set ?_ GE176.out | refine below_set ?_ GE184.out) | exact HB.out)⟩
                     (try clear BK176)
                     (try clear BK184)
                     (try clear HB)
                     generalize ((((((w26.setCell ⟨gb184, 0, none⟩ (.int .i64 (wrap64 (rd l0 5)))).setCell ⟨gb184, 1, none⟩ (.int .i64 (wrap64 (rd l0 6)))).setCell ⟨gb184, 2, none⟩ (.int .i64 0)).setCell ⟨gb184, 3, none⟩ (.int .i64 0)).setCell ⟨gb184, 4, none⟩ (.int .i64 0)).setCell ⟨gb184, 5, none⟩ (.slice none 0 0)) = w33 at n0_ n1_ n2_ ⊢
                     have BK176 := n0_
                     have BK184 := n1_
                     have HB := n2_
                     clear n0_ n1_ n2_
                     have n0_ := Aside0.mk (blk_drew BK176.out)
                     have n1_ := Aside0.mk (blk_drew BK184.out)
                     have n2_ := Aside0.mk (below_drew1 HB.out)
                     clear BK176
                     clear BK184
                     clear HB
                     have BK176 := n0_
                     have BK184 := n1_
                     have HB := n2_
                     clear n0_ n1_ n2_
                     have p185 : 0 ≤ (7 : Int) := (by omega)
                     have q185 : 7 < (l0.length : Int) := of_decide_eq_true (by first | (with_reducible assumption) | assumption)
                     obtain ⟨ad185, e185, hx185_0⟩ := Kd.at_int HR0.out 7 p185 q185
                     have hw185_0 := hx185_0
                     (try rw [show ((7 : Int)).toNat = 7 from rfl] at hw185_0)
                     (try rw [show 7 * 1 = 7 from rfl] at hw185_0)
                     (try simp only [Nat.reduceMul, Nat.reduceEqDiff, Go.Addr.add, ↓reduceIte] at hw185_0)
                     obtain rfl : ad181 = ad185 := (by injection e185)
                     (try simp only [show (7 : Int).toNat = 7 from rfl, Nat.reduceMul, Nat.reduceEqDiff, Go.Addr.add, ↓reduceIte] at hx185_0)
                     have qi185 : (7 < l0.length) = True := eq_true (by omega)
                     (try rw [show ((7 : Int)).toNat = 7 from rfl] at hx185_0)
                     replace hx185_0 := (HB.out.cell (World.block_lt_of_cell? w _ hx185_0)).trans hx185_0
                     replace p185 := eq_true p185
                     replace q185 := eq_true q185
                     have p186 : 0 ≤ (8 : Int) := (by omega)
                     have q186 : 8 < (l0.length : Int) := of_decide_eq_true (by first | (with_reducible assumption) | assumption)
                     obtain ⟨ad186, e186, hx186_0⟩ := Kd.at_int HR0.out 8 p186 q186
                     have hw186_0 := hx186_0
                     (try rw [show ((8 : Int)).toNat = 8 from rfl] at hw186_0)
                     (try rw [show 8 * 1 = 8 from rfl] at hw186_0)
                     (try simp only [Nat.reduceMul, Nat.reduceEqDiff, Go.Addr.add, ↓reduceIte] at hw186_0)
                     obtain rfl : ad181 = ad186 := (by injection e186)
                     (try simp only [show (8 : Int).toNat = 8 from rfl, Nat.reduceMul, Nat.reduceEqDiff, Go.Addr.add, ↓reduceIte] at hx186_0)
                     have qi186 : (8 < l0.length) = True := eq_true (by omega)
                     (try rw [show ((8 : Int)).toNat = 8 from rfl] at hx186_0)
                     replace hx186_0 := (HB.out.cell (World.block_lt_of_cell? w _ hx186_0)).trans hx186_0
                     replace p186 := eq_true p186
                     replace q186 := eq_true q186
                     have p187 : 0 ≤ (9 : Int) := (by omega)
                     have q187 : 9 < (l0.length : Int) := of_decide_eq_true (by first | (with_reducible assumption) | assumption)
                     obtain ⟨ad187, e187, hx187_0⟩ := Kd.at_int HR0.out 9 p187 q187
                     have hw187_0 := hx187_0
                     (try rw [show ((9 : Int)).toNat = 9 from rfl] at hw187_0)
                     (try rw [show 9 * 1 = 9 from rfl] at hw187_0)
                     (try simp only [Nat.reduceMul, Nat.reduceEqDiff, Go.Addr.add, ↓reduceIte] at hw187_0)
                     obtain rfl : ad181 = ad187 := (by injection e187)
                     (try simp only [show (9 : Int).toNat = 9 from rfl, Nat.reduceMul, Nat.reduceEqDiff, Go.Addr.add, ↓reduceIte] at hx187_0)
                     have qi187 : (9 < l0.length) = True := eq_true (by omega)
                     (try rw [show ((9 : Int)).toNat = 9 from rfl] at hx187_0)
                     replace hx187_0 := (HB.out.cell (World.block_lt_of_cell? w _ hx187_0)).trans hx187_0
                     replace p187 := eq_true p187
                     replace q187 := eq_true q187
                     refine start_ (n := 15) (S := fun w' => w'.cell? ⟨ad181.block, ad181.off + 7, none⟩ = some (.int .u8 (rd l0 7)) ∧ w'.cell? ⟨ad181.block, ad181.off + 8, none⟩ = some (.int .u8 (rd l0 8)) ∧ w'.cell? ⟨ad181.block, ad181.off + 9, none⟩ = some (.int .u8 (rd l0 9))) (ds := []) #[false, false, false, false, false, false, false, false, false, false, false, false, false, false, false] (by kernel_rfl) rfl rfl ⟨((HB.out.cell (World.block_lt_of_cell? w _ hw185_0)).trans hw185_0), ((HB.out.cell (World.block_lt_of_cell? w _ hw186_0)).trans hw186_0), ((HB.out.cell (World.block_lt_of_cell? w _ hw187_0)).trans hw187_0)⟩ (fun hHeld => ?_); refine with_tabW keepsakeref21_Parse.tab8 keepsakeref21_Parse.bits8 (fun HT_ HW_ => ?_)
                     generalize w33.drew = w34 at BK176 BK184 HB hx185_0 hx186_0 hx187_0 hHeld ⊢
                     refine pure_ (i := 0) (N := some 48) (v := ?_) (a' := ?_) #[true, false, false, false, false, false, false, false, false, false, false, false, false, false, false] rfl rfl (any_of HT_.out (by kernel_rfl)) (fun _ _ _ h => h) (Or.inl ⟨by rfl, ?_⟩) ?_ ?_
                     rotate_left
                     · intro w'
                       go_simp
                       with_reducible rfl
                     rotate_left
                     · simp only [Act.put, List.setIfInBounds_toArray, List.set_cons_zero, List.set_cons_succ, i64_w, i32_w]
                       rfl
                     refine pure_ (i := 1) (N := some 49) (v := ?_) (a' := ?_) #[true, true, false, false, false, false, false, false, false, false, false, false, false, false, false] rfl rfl (any_of HT_.out (by kernel_rfl)) (fun _ _ _ h => h) (Or.inl ⟨by rfl, ?_⟩) ?_ ?_
                     rotate_left
                     · intro w'
                       go_simp
                       with_reducible rfl
                     rotate_left
                     · simp only [Act.put, List.setIfInBounds_toArray, List.set_cons_zero, List.set_cons_succ, i64_w, i32_w]
                       rfl
                     refine pure_ (i := 4) (N := some 52) (v := ?_) (a' := ?_) #[true, true, false, false, true, false, false, false, false, false, false, false, false, false, false] rfl rfl (any_of HT_.out (by kernel_rfl)) (fun _ _ _ h => h) (Or.inl ⟨by rfl, ?_⟩) ?_ ?_
                     rotate_left
                     · intro w'
                       go_simp
                       with_reducible rfl
                     rotate_left
                     · simp only [Act.put, List.setIfInBounds_toArray, List.set_cons_zero, List.set_cons_succ, i64_w, i32_w]
                       rfl
                     refine pure_ (i := 5) (N := some 53) (v := ?_) (a' := ?_) #[true, true, false, false, true, true, false, false, false, false, false, false, false, false, false] rfl rfl (any_of HT_.out (by kernel_rfl)) (fun _ _ _ h => h) (Or.inl ⟨by rfl, ?_⟩) ?_ ?_
                     rotate_left
                     · intro w'
                       go_simp
                       with_reducible rfl
                     rotate_left
                     · simp only [Act.put, List.setIfInBounds_toArray, List.set_cons_zero, List.set_cons_succ, i64_w, i32_w]
                       rfl
                     refine pure_ (i := 8) (N := some 56) (v := ?_) (a' := ?_) #[true, true, false, false, true, true, false, false, true, false, false, false, false, false, false] rfl rfl (any_of HT_.out (by kernel_rfl)) (fun _ _ _ h => h) (Or.inl ⟨by rfl, ?_⟩) ?_ ?_
                     rotate_left
                     · intro w'
                       go_simp
                       with_reducible rfl
                     rotate_left
                     · simp only [Act.put, List.setIfInBounds_toArray, List.set_cons_zero, List.set_cons_succ, i64_w, i32_w]
                       rfl
                     refine pure_ (i := 9) (N := some 57) (v := ?_) (a' := ?_) #[true, true, false, false, true, true, false, false, true, true, false, false, false, false, false] rfl rfl (any_of HT_.out (by kernel_rfl)) (fun _ _ _ h => h) (Or.inl ⟨by rfl, ?_⟩) ?_ ?_
                     rotate_left
                     · intro w'
                       go_simp
                       with_reducible rfl
                     rotate_left
                     · simp only [Act.put, List.setIfInBounds_toArray, List.set_cons_zero, List.set_cons_succ, i64_w, i32_w]
                       rfl
                     refine take_ (i := 2) (N := some 50) (v := ?_) (a' := ?_) #[true, true, true, false, true, true, false, false, true, true, false, false, false, false, false] rfl rfl (take_ofW HT_.out HW_.out (by kernel_rfl)) (fun _ _ _ h => h) (Or.inl ⟨by rfl, ?_⟩) hHeld ?_ ?_
                     rotate_left
                     · rintro w' ⟨s0, s1, s2⟩
                       go_simp
                       with_reducible rfl
                     rotate_left
                     · simp only [Act.put, List.setIfInBounds_toArray, List.set_cons_zero, List.set_cons_succ, i64_w, i32_w]
                       rfl
                     refine pure_ (i := 3) (N := some 51) (v := ?_) (a' := ?_) #[true, true, true, true, true, true, false, false, true, true, false, false, false, false, false] rfl rfl (any_of HT_.out (by kernel_rfl)) (fun _ _ _ h => h) (Or.inl ⟨by rfl, ?_⟩) ?_ ?_
                     rotate_left
                     · intro w'
                       go_simp
                       with_reducible rfl
                     rotate_left
                     · simp only [Act.put, List.setIfInBounds_toArray, List.set_cons_zero, List.set_cons_succ, i64_w, i32_w]
                       rfl
                     refine take_ (i := 6) (N := some 54) (v := ?_) (a' := ?_) #[true, true, true, true, true, true, true, false, true, true, false, false, false, false, false] rfl rfl (take_ofW HT_.out HW_.out (by kernel_rfl)) (fun _ _ _ h => h) (Or.inl ⟨by rfl, ?_⟩) hHeld ?_ ?_
                     rotate_left
                     · rintro w' ⟨s0, s1, s2⟩
                       go_simp
                       with_reducible rfl
                     rotate_left
                     · simp only [Act.put, List.setIfInBounds_toArray, List.set_cons_zero, List.set_cons_succ, i64_w, i32_w]
                       rfl
                     refine pure_ (i := 7) (N := some 55) (v := ?_) (a' := ?_) #[true, true, true, true, true, true, true, true, true, true, false, false, false, false, false] rfl rfl (any_of HT_.out (by kernel_rfl)) (fun _ _ _ h => h) (Or.inl ⟨by rfl, ?_⟩) ?_ ?_
                     rotate_left
                     · intro w'
                       go_simp
                       with_reducible rfl
                     rotate_left
                     · simp only [Act.put, List.setIfInBounds_toArray, List.set_cons_zero, List.set_cons_succ, i64_w, i32_w]
                       rfl
                     refine take_ (i := 10) (N := some 58) (v := ?_) (a' := ?_) #[true, true, true, true, true, true, true, true, true, true, true, false, false, false, false] rfl rfl (take_ofW HT_.out HW_.out (by kernel_rfl)) (fun _ _ _ h => h) (Or.inl ⟨by rfl, ?_⟩) hHeld ?_ ?_
                     rotate_left
                     · rintro w' ⟨s0, s1, s2⟩
                       go_simp
                       with_reducible rfl
                     rotate_left
                     · simp only [Act.put, List.setIfInBounds_toArray, List.set_cons_zero, List.set_cons_succ, i64_w, i32_w]
                       rfl
                     refine pure_ (i := 11) (N := some 59) (v := ?_) (a' := ?_) #[true, true, true, true, true, true, true, true, true, true, true, true, false, false, false] rfl rfl (any_of HT_.out (by kernel_rfl)) (fun _ _ _ h => h) (Or.inl ⟨by rfl, ?_⟩) ?_ ?_
                     rotate_left
                     · intro w'
                       go_simp
                       with_reducible rfl
                     rotate_left
                     · simp only [Act.put, List.setIfInBounds_toArray, List.set_cons_zero, List.set_cons_succ, i64_w, i32_w]
                       rfl
                     refine pure_ (i := 12) (N := some 60) (v := ?_) (a' := ?_) #[true, true, true, true, true, true, true, true, true, true, true, true, true, false, false] rfl rfl (any_of HT_.out (by kernel_rfl)) (fun _ _ _ h => h) (Or.inl ⟨by rfl, ?_⟩) ?_ ?_
                     rotate_left
                     · intro w'
                       go_simp
                       with_reducible rfl
                     rotate_left
                     · simp only [Act.put, List.setIfInBounds_toArray, List.set_cons_zero, List.set_cons_succ, i64_w, i32_w]
                       rfl
                     refine pure_ (i := 13) (N := some 61) (v := ?_) (a' := ?_) #[true, true, true, true, true, true, true, true, true, true, true, true, true, true, false] rfl rfl (any_of HT_.out (by kernel_rfl)) (fun _ _ _ h => h) (Or.inl ⟨by rfl, ?_⟩) ?_ ?_
                     rotate_left
                     · intro w'
                       go_simp
                       with_reducible rfl
                     rotate_left
                     · simp only [Act.put, List.setIfInBounds_toArray, List.set_cons_zero, List.set_cons_succ, i64_w, i32_w]
                       rfl
                     refine one_ (i := 14) (N := none) #[true, true, true, true, true, true, true, true, true, true, true, true, true, true, true] rfl rfl (one_of HT_.out (by kernel_rfl)) (by decide) (fun K hK => ?_)
                     have hs35 : w34.cell? ⟨gb184, 2, none⟩ = some (.int .i64 0) := (blk_cell BK184.out 2).trans rfl
                     have hfs35 := blk_frozen BK184.out 2
                     have hns35_0 := NB176_184.out
                     have hms35_0 := NB184_176.out
                     have hs36 : w34.cell? ⟨gb184, 3, none⟩ = some (.int .i64 0) := (blk_cell BK184.out 3).trans rfl
                     have hfs36 := blk_frozen BK184.out 3
                     have hns36_0 := NB176_184.out
                     have hms36_0 := NB184_176.out
                     have hs37 : w34.cell? ⟨gb184, 4, none⟩ = some (.int .i64 0) := (blk_cell BK184.out 4).trans rfl
                     have hfs37 := blk_frozen BK184.out 4
                     have hns37_0 := NB176_184.out
                     have hms37_0 := NB184_176.out
                     refine skip_ (w1 := ?_) (by rfl) rfl ?_ ?_
                     rotate_left
                     · go_simp
                       rfl
                     refine hK.out _ _ ⟨((cell_far (p := ⟨gb184, _, none⟩) (by first | exact Nat.ne_of_lt (Nat.lt_of_lt_of_le (by have := World.block_lt_of_cell? _ _ hw185_0; first | rwa [add_block] at this | exact this) GW184.out) | (rw [add_block]; exact Nat.ne_of_lt (Nat.lt_of_lt_of_le (by have := World.block_lt_of_cell? _ _ hw185_0; first | rwa [add_block] at this | exact this) GW184.out)) | (show (Addr.add _ _).block ≠ _; rw [add_block]; exact Nat.ne_of_lt (Nat.lt_of_lt_of_le (by have := World.block_lt_of_cell? _ _ hw185_0; first | rwa [add_block] at this | exact this) GW184.out)) | (dsimp only; exact Nat.ne_of_lt (Nat.lt_of_lt_of_le (by have := World.block_lt_of_cell? _ _ hw185_0; first | rwa [add_block] at this | exact this) GW184.out))) _).trans (((cell_far (p := ⟨gb184, _, none⟩) (by first | exact Nat.ne_of_lt (Nat.lt_of_lt_of_le (by have := World.block_lt_of_cell? _ _ hw185_0; first | rwa [add_block] at this | exact this) GW184.out) | (rw [add_block]; exact Nat.ne_of_lt (Nat.lt_of_lt_of_le (by have := World.block_lt_of_cell? _ _ hw185_0; first | rwa [add_block] at this | exact this) GW184.out)) | (show (Addr.add _ _).block ≠ _; rw [add_block]; exact Nat.ne_of_lt (Nat.lt_of_lt_of_le (by have := World.block_lt_of_cell? _ _ hw185_0; first | rwa [add_block] at this | exact this) GW184.out)) | (dsimp only; exact Nat.ne_of_lt (Nat.lt_of_lt_of_le (by have := World.block_lt_of_cell? _ _ hw185_0; first | rwa [add_block] at this | exact this) GW184.out))) _).trans (((cell_far (p := ⟨gb184, _, none⟩) (by first | exact Nat.ne_of_lt (Nat.lt_of_lt_of_le (by have := World.block_lt_of_cell? _ _ hw185_0; first | rwa [add_block] at this | exact this) GW184.out) | (rw [add_block]; exact Nat.ne_of_lt (Nat.lt_of_lt_of_le (by have := World.block_lt_of_cell? _ _ hw185_0; first | rwa [add_block] at this | exact this) GW184.out)) | (show (Addr.add _ _).block ≠ _; rw [add_block]; exact Nat.ne_of_lt (Nat.lt_of_lt_of_le (by have := World.block_lt_of_cell? _ _ hw185_0; first | rwa [add_block] at this | exact this) GW184.out)) | (dsimp only; exact Nat.ne_of_lt (Nat.lt_of_lt_of_le (by have := World.block_lt_of_cell? _ _ hw185_0; first | rwa [add_block] at this | exact this) GW184.out))) _).trans (hHeld.1)))))), ((cell_far (p := ⟨gb184, _, none⟩) (by first | exact Nat.ne_of_lt (Nat.lt_of_lt_of_le (by have := World.block_lt_of_cell? _ _ hw186_0; first | rwa [add_block] at this | exact this) GW184.out) | (rw [add_block]; exact Nat.ne_of_lt (Nat.lt_of_lt_of_le (by have := World.block_lt_of_cell? _ _ hw186_0; first | rwa [add_block] at this | exact this) GW184.out)) | (show (Addr.add _ _).block ≠ _; rw [add_block]; exact Nat.ne_of_lt (Nat.lt_of_lt_of_le (by have := World.block_lt_of_cell? _ _ hw186_0; first | rwa [add_block] at this | exact this) GW184.out)) | (dsimp only; exact Nat.ne_of_lt (Nat.lt_of_lt_of_le (by have := World.block_lt_of_cell? _ _ hw186_0; first | rwa [add_block] at this | exact this) GW184.out))) _).trans (((cell_far (p := ⟨gb184, _, none⟩) (by first | exact Nat.ne_of_lt (Nat.lt_of_lt_of_le (by have := World.block_lt_of_cell? _ _ hw186_0; first | rwa [add_block] at this | exact this) GW184.out) | (rw [add_block]; exact Nat.ne_of_lt (Nat.lt_of_lt_of_le (by have := World.block_lt_of_cell? _ _ hw186_0; first | rwa [add_block] at this | exact this) GW184.out)) | (show (Addr.add _ _).block ≠ _; rw [add_block]; exact Nat.ne_of_lt (Nat.lt_of_lt_of_le (by have := World.block_lt_of_cell? _ _ hw186_0; first | rwa [add_block] at this | exact this) GW184.out)) | (dsimp only; exact Nat.ne_of_lt (Nat.lt_of_lt_of_le (by have := World.block_lt_of_cell? _ _ hw186_0; first | rwa [add_block] at this | exact this) GW184.out))) _).trans (((cell_far (p := ⟨gb184, _, none⟩) (by first | exact Nat.ne_of_lt (Nat.lt_of_lt_of_le (by have := World.block_lt_of_cell? _ _ hw186_0; first | rwa [add_block] at this | exact this) GW184.out) | (rw [add_block]; exact Nat.ne_of_lt (Nat.lt_of_lt_of_le (by have := World.block_lt_of_cell? _ _ hw186_0; first | rwa [add_block] at this | exact this) GW184.out)) | (show (Addr.add _ _).block ≠ _; rw [add_block]; exact Nat.ne_of_lt (Nat.lt_of_lt_of_le (by have := World.block_lt_of_cell? _ _ hw186_0; first | rwa [add_block] at this | exact this) GW184.out)) | (dsimp only; exact Nat.ne_of_lt (Nat.lt_of_lt_of_le (by have := World.block_lt_of_cell? _ _ hw186_0; first | rwa [add_block] at this | exact this) GW184.out))) _).trans (hHeld.2.1)))))), ((cell_far (p := ⟨gb184, _, none⟩) (by first | exact Nat.ne_of_lt (Nat.lt_of_lt_of_le (by have := World.block_lt_of_cell? _ _ hw187_0; first | rwa [add_block] at this | exact this) GW184.out) | (rw [add_block]; exact Nat.ne_of_lt (Nat.lt_of_lt_of_le (by have := World.block_lt_of_cell? _ _ hw187_0; first | rwa [add_block] at this | exact this) GW184.out)) | (show (Addr.add _ _).block ≠ _; rw [add_block]; exact Nat.ne_of_lt (Nat.lt_of_lt_of_le (by have := World.block_lt_of_cell? _ _ hw187_0; first | rwa [add_block] at this | exact this) GW184.out)) | (dsimp only; exact Nat.ne_of_lt (Nat.lt_of_lt_of_le (by have := World.block_lt_of_cell? _ _ hw187_0; first | rwa [add_block] at this | exact this) GW184.out))) _).trans (((cell_far (p := ⟨gb184, _, none⟩) (by first | exact Nat.ne_of_lt (Nat.lt_of_lt_of_le (by have := World.block_lt_of_cell? _ _ hw187_0; first | rwa [add_block] at this | exact this) GW184.out) | (rw [add_block]; exact Nat.ne_of_lt (Nat.lt_of_lt_of_le (by have := World.block_lt_of_cell? _ _ hw187_0; first | rwa [add_block] at this | exact this) GW184.out)) | (show (Addr.add _ _).block ≠ _; rw [add_block]; exact Nat.ne_of_lt (Nat.lt_of_lt_of_le (by have := World.block_lt_of_cell? _ _ hw187_0; first | rwa [add_block] at this | exact this) GW184.out)) | (dsimp only; exact Nat.ne_of_lt (Nat.lt_of_lt_of_le (by have := World.block_lt_of_cell? _ _ hw187_0; first | rwa [add_block] at this | exact this) GW184.out))) _).trans (((cell_far (p := ⟨gb184, _, none⟩) (by first | exact Nat.ne_of_lt (Nat.lt_of_lt_of_le (by have := World.block_lt_of_cell? _ _ hw187_0; first | rwa [add_block] at this | exact this) GW184.out) | (rw [add_block]; exact Nat.ne_of_lt (Nat.lt_of_lt_of_le (by have := World.block_lt_of_cell? _ _ hw187_0; first | rwa [add_block] at this | exact this) GW184.out)) | (show (Addr.add _ _).block ≠ _; rw [add_block]; exact Nat.ne_of_lt (Nat.lt_of_lt_of_le (by have := World.block_lt_of_cell? _ _ hw187_0; first | rwa [add_block] at this | exact this) GW184.out)) | (dsimp only; exact Nat.ne_of_lt (Nat.lt_of_lt_of_le (by have := World.block_lt_of_cell? _ _ hw187_0; first | rwa [add_block] at this | exact this) GW184.out))) _).trans (hHeld.2.2))))))⟩ (fun hHeld => ?_)
                     clear hK K
                     refine done_ (done_of HT_.out (by kernel_rfl)) ?_
                     have hnb38 := NB184_176.out
                     have hnc38 := NB176_184.out
                     have hcz39_0 : w34.cell? ⟨gb184, 0, none⟩ = some (.int .i64 (wrap64 (rd l0 5))) := (blk_cell BK184.out 0).trans rfl
                     have hcz39_1 : w34.cell? ⟨gb184, 1, none⟩ = some (.int .i64 (wrap64 (rd l0 6))) := (blk_cell BK184.out 1).trans rfl
                     have hcz39_2 : w34.cell? ⟨gb184, 2, none⟩ = some (.int .i64 0) := (blk_cell BK184.out 2).trans rfl
                     have hcz39_3 : w34.cell? ⟨gb184, 3, none⟩ = some (.int .i64 0) := (blk_cell BK184.out 3).trans rfl
                     have hcz39_4 : w34.cell? ⟨gb184, 4, none⟩ = some (.int .i64 0) := (blk_cell BK184.out 4).trans rfl
                     have hcz39_5 : w34.cell? ⟨gb184, 5, none⟩ = some (.slice none 0 0) := (blk_cell BK184.out 5).trans rfl
                     have hfz39_0 := blk_frozen BK184.out 0
                     have hfz39_1 := blk_frozen BK184.out 1
                     have hfz39_2 := blk_frozen BK184.out 2
                     have hfz39_3 := blk_frozen BK184.out 3
                     have hfz39_4 := blk_frozen BK184.out 4
                     have hfz39_5 := blk_frozen BK184.out 5
                     go_upto_region 10 with (first | ((with_reducible refine gate_callee (f := 24) rfl ?_); refine goesL_ (some 63) rfl rfl Try.func24 (by kernel_rfl) rfl #[.agg #[.int .i64 (wrap64 (rd l0 5)), .int .i64 (wrap64 (rd l0 6)), .int .i64 (wrap64 (rd l0 7)), .int .i64 (wrap64 (rd l0 8)), .int .i64 (wrap64 (rd l0 9)), .slice none 0 0]] rfl (by (try simp only [List.map_toArray, List.map_cons, List.map_nil]); first | done | rfl | (simp only [List.length_drop, List.length_take]; rfl)) ?_; (refine (keepsakeref20_Right.calls (wrap64 (rd l0 5)) (wrap64 (rd l0 6)) (wrap64 (rd l0 7)) (wrap64 (rd l0 8)) (wrap64 (rd l0 9)) _ _ ([] : List Int) t188 _ ?side1 ?side2 A23.out).mono ?_); (case side1 => exact Kd.C_nil _ _); (case side2 => exact Nat.le_refl _); rintro e w40 ⟨rfl, hb⟩; refine ⟨_, rfl, ?_⟩; have n0_ := Aside0.mk (blk_below (g := gb176) (o := .cells #[.int .i64 0, .int .i64 0, .int .i64 0, .int .i64 0, .int .i64 0, .slice none 0 0] 27 (0, 0)) (by (with_reducible repeat (first | refine blk_drewN ?_ _ | refine blk_drew ?_ | refine blk_alloc ?_ _)); refine blk_far ?_ NB176_184.out _; (with_reducible repeat (first | refine blk_drewN ?_ _ | refine blk_drew ?_ | refine blk_alloc ?_ _)); refine blk_far ?_ NB176_184.out _; (with_reducible repeat (first | refine blk_drewN ?_ _ | refine blk_drew ?_ | refine blk_alloc ?_ _)); refine blk_far ?_ NB176_184.out _; (with_reducible repeat (first | refine blk_drewN ?_ _ | refine blk_drew ?_ | refine blk_alloc ?_ _)); exact BK176.out) hb); have n1_ := Aside0.mk (blk_below (g := gb184) (o := .cells #[.int .i64 (wrap64 (rd l0 5)), .int .i64 (wrap64 (rd l0 6)), .int .i64 (wrap64 (rd l0 7)), .int .i64 (wrap64 (rd l0 8)), .int .i64 (wrap64 (rd l0 9)), .slice none 0 0] 27 (0, 0)) (by (with_reducible repeat (first | refine blk_drewN ?_ _ | refine blk_drew ?_ | refine blk_alloc ?_ _)); refine blk_put (cs := #[.int .i64 (wrap64 (rd l0 5)), .int .i64 (wrap64 (rd l0 6)), .int .i64 (wrap64 (rd l0 7)), .int .i64 (wrap64 (rd l0 8)), .int .i64 0, .slice none 0 0]) ?_ 4 _ rfl; (with_reducible repeat (first | refine blk_drewN ?_ _ | refine blk_drew ?_ | refine blk_alloc ?_ _)); refine blk_put (cs := #[.int .i64 (wrap64 (rd l0 5)), .int .i64 (wrap64 (rd l0 6)), .int .i64 (wrap64 (rd l0 7)), .int .i64 0, .int .i64 0, .slice none 0 0]) ?_ 3 _ rfl; (with_reducible repeat (first | refine blk_drewN ?_ _ | refine blk_drew ?_ | refine blk_alloc ?_ _)); refine blk_put (cs := #[.int .i64 (wrap64 (rd l0 5)), .int .i64 (wrap64 (rd l0 6)), .int .i64 0, .int .i64 0, .int .i64 0, .slice none 0 0]) ?_ 2 _ rfl; (with_reducible repeat (first | refine blk_drewN ?_ _ | refine blk_drew ?_ | refine blk_alloc ?_ _)); exact BK184.out) hb); have n2_ := Aside0.mk (below_step (by repeat (first | (with_reducible first | exact HB.out | apply below_alloc | apply pw_below_drewN | apply below_drew1 | refine below_set ?_ GE176.out | refine below_set ?_ GE184.out) | exact HB.out)) hb); clear BK176; clear BK184; clear HB; have BK176 := n0_; have BK184 := n1_; have HB := n2_; clear n0_ n1_ n2_; (try clear hb); (try clear hb2); (try clear hk); (try clear hi)))
                     (try simp only [Act.put, List.setIfInBounds_toArray, List.set_cons_zero, List.set_cons_succ])
                     go_cut [77] (fun v77 wc => ∃ (kq : Nat) (x77_23 : Bool), v77 = .bool x77_23 ∧ Aside0 (keepsakeref21_Parse.j1 kq l0 x77_23 (wrap64 (rd l0 5)) (wrap64 (rd l0 6)) (wrap64 (rd l0 7)) (wrap64 (rd l0 8)) (wrap64 (rd l0 9)) = some (r1, r2, r3, r4, r5, r6, r7)) ∧ Aside0 (kq ≤ kj4) ∧ Aside0 (wc.heap[gb176]? = some (.cells #[.int .i64 0, .int .i64 0, .int .i64 0, .int .i64 0, .int .i64 0, (.slice none 0 0)] 27 (0, 0))) ∧ Aside0 (wc.heap[gb184]? = some (.cells #[.int .i64 (wrap64 (rd l0 5)), .int .i64 (wrap64 (rd l0 6)), .int .i64 (wrap64 (rd l0 7)), .int .i64 (wrap64 (rd l0 8)), .int .i64 (wrap64 (rd l0 9)), (.slice none 0 0)] 27 (0, 0))) ∧ Aside0 (Below w.heap.size w wc))
                     case first =>
                      have H := HC24.out
                      clear HC24
                      by_cases c41 : t188 = true
                      · subst c41
                        have H1 : (if 10 < (l0.length : Int) then (if (rd l0 10) = 0 then (if 11 < (l0.length : Int) then (keepsakeref21_Parse.j1 kj4 l0 ((rd l0 11) != 0) (wrap64 (rd l0 5)) (wrap64 (rd l0 6)) (wrap64 (rd l0 7)) (wrap64 (rd l0 8)) (wrap64 (rd l0 9))) else (none)) else (keepsakeref21_Parse.j1 kj4 l0 true (wrap64 (rd l0 5)) (wrap64 (rd l0 6)) (wrap64 (rd l0 7)) (wrap64 (rd l0 8)) (wrap64 (rd l0 9)))) else (none)) = some (r1, r2, r3, r4, r5, r6, r7) := by rw [if_pos rfl] at H; exact H
                        clear H
                        have H := H1
                        clear H1
                        by_cases c42 : 10 < (l0.length : Int)
                        · rw [if_pos c42] at H
                          have c42b0 : decide (10 < (l0.length : Int)) = true := decide_eq_true c42
                          have c42b1 : decide (10 < l0.length) = true := decide_eq_true (by omega)
                          clear c42
                          (first | rw [c42b0] | (simp only [i64_w, i32_w]; rw [c42b0]) | skip)
                          by_cases c43 : (rd l0 10) = 0
                          · rw [if_pos c43] at H
                            have c43b0 : ((rd l0 10) == 0) = true := beq_iff_eq.mpr c43
                            have c43b1 : ((rd l0 10) != 0) = false := bne_eq_false_iff_eq.mpr c43
                            clear c43
                            by_cases c44 : 11 < (l0.length : Int)
                            · rw [if_pos c44] at H
                              have c44b0 : decide (11 < (l0.length : Int)) = true := decide_eq_true c44
                              have c44b1 : decide (11 < l0.length) = true := decide_eq_true (by omega)
                              clear c44
                              have H' := Aside0.mk H
                              clear H
                              have p189 : 0 ≤ (10 : Int) := (by omega)
                              have q189 : 10 < (l0.length : Int) := of_decide_eq_true (by first | (with_reducible assumption) | assumption)
                              obtain ⟨ad189, e189, hx189_0⟩ := Kd.at_int HR0.out 10 p189 q189
                              obtain rfl : ad181 = ad189 := (by injection e189)
                              (try simp only [show (10 : Int).toNat = 10 from rfl, Nat.reduceMul, Nat.reduceEqDiff, Go.Addr.add, ↓reduceIte] at hx189_0)
                              have qi189 : (10 < l0.length) = True := eq_true (by omega)
                              (try rw [show ((10 : Int)).toNat = 10 from rfl] at hx189_0)
                              replace hx189_0 := (HB.out.cell (World.block_lt_of_cell? w _ hx189_0)).trans hx189_0
                              replace p189 := eq_true p189
                              replace q189 := eq_true q189
                              have p190 : 0 ≤ (11 : Int) := (by omega)
                              have q190 : 11 < (l0.length : Int) := of_decide_eq_true (by first | (with_reducible assumption) | assumption)
                              obtain ⟨ad190, e190, hx190_0⟩ := Kd.at_int HR0.out 11 p190 q190
                              obtain rfl : ad181 = ad190 := (by injection e190)
                              (try simp only [show (11 : Int).toNat = 11 from rfl, Nat.reduceMul, Nat.reduceEqDiff, Go.Addr.add, ↓reduceIte] at hx190_0)
                              have qi190 : (11 < l0.length) = True := eq_true (by omega)
                              (try rw [show ((11 : Int)).toNat = 11 from rfl] at hx190_0)
                              replace hx190_0 := (HB.out.cell (World.block_lt_of_cell? w _ hx190_0)).trans hx190_0
                              replace p190 := eq_true p190
                              replace q190 := eq_true q190
                              go_wp2
                              go_meet
                              case rel => exact ⟨_, (((rd l0 11) != 0)), (by first | rfl | (simp; done) | (simp [*]; done) | (simp; omega)), H', ⟨by have := HJ4.out; first | omega | exact Nat.le_refl _⟩, ⟨by (with_reducible repeat (first | refine blk_drewN ?_ _ | refine blk_drew ?_ | refine blk_alloc ?_ _)); exact BK176.out⟩, ⟨by (with_reducible repeat (first | refine blk_drewN ?_ _ | refine blk_drew ?_ | refine blk_alloc ?_ _)); exact BK184.out⟩, ⟨by repeat (first | (with_reducible first | exact HB.out | apply below_alloc | apply pw_below_drewN | apply below_drew1 | refine below_set ?_ GE176.out | refine below_set ?_ GE184.out) | exact HB.out)⟩⟩
                            · rw [if_neg c44] at H
                              exact absurd H (by simp)
                          · rw [if_neg c43] at H
                            have c43b0 : ((rd l0 10) == 0) = false := beq_eq_false_iff_ne.mpr c43
                            have c43b1 : ((rd l0 10) != 0) = true := bne_iff_ne.mpr c43
                            have H' := Aside0.mk H
                            clear H
                            have p189 : 0 ≤ (10 : Int) := (by omega)
                            have q189 : 10 < (l0.length : Int) := of_decide_eq_true (by first | (with_reducible assumption) | assumption)
                            obtain ⟨ad189, e189, hx189_0⟩ := Kd.at_int HR0.out 10 p189 q189
                            obtain rfl : ad181 = ad189 := (by injection e189)
                            (try simp only [show (10 : Int).toNat = 10 from rfl, Nat.reduceMul, Nat.reduceEqDiff, Go.Addr.add, ↓reduceIte] at hx189_0)
                            have qi189 : (10 < l0.length) = True := eq_true (by omega)
                            (try rw [show ((10 : Int)).toNat = 10 from rfl] at hx189_0)
                            replace hx189_0 := (HB.out.cell (World.block_lt_of_cell? w _ hx189_0)).trans hx189_0
                            replace p189 := eq_true p189
                            replace q189 := eq_true q189
                            go_wp2
                            go_meet
                            case rel => exact ⟨_, (true), (by first | rfl | (simp; done) | (simp [*]; done) | (simp; omega)), H', ⟨by have := HJ4.out; first | omega | exact Nat.le_refl _⟩, ⟨by (with_reducible repeat (first | refine blk_drewN ?_ _ | refine blk_drew ?_ | refine blk_alloc ?_ _)); exact BK176.out⟩, ⟨by (with_reducible repeat (first | refine blk_drewN ?_ _ | refine blk_drew ?_ | refine blk_alloc ?_ _)); exact BK184.out⟩, ⟨by repeat (first | (with_reducible first | exact HB.out | apply below_alloc | apply pw_below_drewN | apply below_drew1 | refine below_set ?_ GE176.out | refine below_set ?_ GE184.out) | exact HB.out)⟩⟩
                        · rw [if_neg c42] at H
                          exact absurd H (by simp)
                      · replace c41 := Bool.eq_false_iff.mpr c41
                        subst c41
                        have H1 : (keepsakeref21_Parse.j1 kj4 l0 true (wrap64 (rd l0 5)) (wrap64 (rd l0 6)) (wrap64 (rd l0 7)) (wrap64 (rd l0 8)) (wrap64 (rd l0 9))) = some (r1, r2, r3, r4, r5, r6, r7) := by rw [if_neg (show ¬ (false = true) by decide)] at H; exact H
                        clear H
                        have H := H1
                        clear H1
                        have H' := Aside0.mk H
                        clear H
                        go_wp2
                        go_meet
                        case rel => exact ⟨_, (true), (by first | rfl | (simp; done) | (simp [*]; done) | (simp; omega)), H', ⟨by have := HJ4.out; first | omega | exact Nat.le_refl _⟩, ⟨by (with_reducible repeat (first | refine blk_drewN ?_ _ | refine blk_drew ?_ | refine blk_alloc ?_ _)); exact BK176.out⟩, ⟨by (with_reducible repeat (first | refine blk_drewN ?_ _ | refine blk_drew ?_ | refine blk_alloc ?_ _)); exact BK184.out⟩, ⟨by repeat (first | (with_reducible first | exact HB.out | apply below_alloc | apply pw_below_drewN | apply below_drew1 | refine below_set ?_ GE176.out | refine below_set ?_ GE184.out) | exact HB.out)⟩⟩
                     case rest =>
                      clear HC24
                      try clear c1
                      try clear p1
                      try clear q1
                      try clear hx1
                      try clear qi1
                      try clear c2
                      try clear p2
                      try clear c3
                      try clear c4
                      try clear p6
                      try clear c8
                      try clear c8b0
                      try clear c8b1
                      try clear c9
                      try clear c9b0
                      try clear c9b1
                      try clear c10
                      try clear c10b0
                      try clear c10b1
                      try clear c11
                      try clear c11b0
                      try clear c11b1
                      try clear c12
                      try clear c12b0
                      try clear c12b1
                      try clear c13
                      try clear c13b0
                      try clear c13b1
                      try clear c14
                      try clear c16
                      try clear c16b0
                      try clear c16b1
                      try clear c17
                      try clear c17b0
                      try clear c17b1
                      try clear p17
                      try clear q17
                      try clear hx17
                      try clear c18
                      try clear c18b0
                      try clear c18b1
                      try clear p18
                      try clear q18
                      try clear hx18
                      try clear qi18
                      try clear c19
                      try clear c19b0
                      try clear c19b1
                      try clear p19
                      try clear q19
                      try clear hx19
                      try clear qi19
                      try clear c20
                      try clear c20b0
                      try clear c20b1
                      try clear c21
                      try clear c21b0
                      try clear c21b1
                      try clear c22
                      try clear c22b0
                      try clear c22b1
                      try clear c24
                      try clear c38
                      try clear c41
                      try clear c42
                      try clear c42b0
                      try clear c42b1
                      try clear c43
                      try clear c43b0
                      try clear c43b1
                      try clear c44
                      try clear c44b0
                      try clear c44b1
                      try clear hcz15_0
                      try clear hcz15_1
                      try clear hcz15_2
                      try clear hcz15_3
                      try clear hcz15_4
                      try clear hcz15_5
                      try clear hcz39_0
                      try clear hcz39_1
                      try clear hcz39_2
                      try clear hcz39_3
                      try clear hcz39_4
                      try clear hcz39_5
                      try clear hcz4_0
                      try clear hcz4_1
                      try clear hcz4_2
                      try clear hcz4_3
                      try clear hcz4_4
                      try clear hcz4_5
                      try clear hfz15_0
                      try clear hfz15_1
                      try clear hfz15_2
                      try clear hfz15_3
                      try clear hfz15_4
                      try clear hfz15_5
                      try clear hfz39_0
                      try clear hfz39_1
                      try clear hfz39_2
                      try clear hfz39_3
                      try clear hfz39_4
                      try clear hfz39_5
                      try clear hfz4_0
                      try clear hfz4_1
                      try clear hfz4_2
                      try clear hfz4_3
                      try clear hfz4_4
                      try clear hfz4_5
                      try clear hx177_0
                      try clear hx178_0
                      try clear hx179_0
                      try clear hx180_0
                      try clear hx181_0
                      try clear hx182_0
                      try clear hx183_0
                      try clear hx185_0
                      try clear hx186_0
                      try clear hx187_0
                      try clear hx189_0
                      try clear hx190_0
                      try clear p177
                      try clear p178
                      try clear p179
                      try clear p180
                      try clear p181
                      try clear p182
                      try clear p183
                      try clear p185
                      try clear p186
                      try clear p187
                      try clear p189
                      try clear p190
                      try clear q177
                      try clear q178
                      try clear q179
                      try clear q180
                      try clear q181
                      try clear q182
                      try clear q183
                      try clear q185
                      try clear q186
                      try clear q187
                      try clear q189
                      try clear q190
                      obtain ⟨kq, x77_23, rfl, HA, HJ23, BK176, BK184, HB⟩ := hcut
                      cases kq with
                      | zero => exact absurd HA.out (by simp [keepsakeref21_Parse.j1])
                      | succ kj23 =>
                       have H := HA.out
                       clear HA
                       simp only [keepsakeref21_Parse.j1] at H
                       by_cases c45 : x77_23 = true
                       · subst c45
                         have H1 : (some (0, 0, 0, 0, 0, ([] : List Int), 13)) = some (r1, r2, r3, r4, r5, r6, r7) := by rw [if_pos rfl] at H; exact H
                         clear H
                         have H := H1
                         clear H1
                         simp only [Option.some.injEq, Prod.mk.injEq] at H
                         obtain ⟨rfl, rfl, rfl, rfl, rfl, rfl, rfl⟩ := H
                         have hnb46 := NB176_184.out
                         have hnc46 := NB184_176.out
                         have hcz47_0 : wc.cell? ⟨gb176, 0, none⟩ = some (.int .i64 0) := (blk_cell BK176.out 0).trans rfl
                         have hcz47_1 : wc.cell? ⟨gb176, 1, none⟩ = some (.int .i64 0) := (blk_cell BK176.out 1).trans rfl
                         have hcz47_2 : wc.cell? ⟨gb176, 2, none⟩ = some (.int .i64 0) := (blk_cell BK176.out 2).trans rfl
                         have hcz47_3 : wc.cell? ⟨gb176, 3, none⟩ = some (.int .i64 0) := (blk_cell BK176.out 3).trans rfl
                         have hcz47_4 : wc.cell? ⟨gb176, 4, none⟩ = some (.int .i64 0) := (blk_cell BK176.out 4).trans rfl
                         have hcz47_5 : wc.cell? ⟨gb176, 5, none⟩ = some (.slice none 0 0) := (blk_cell BK176.out 5).trans rfl
                         have hfz47_0 := blk_frozen BK176.out 0
                         have hfz47_1 := blk_frozen BK176.out 1
                         have hfz47_2 := blk_frozen BK176.out 2
                         have hfz47_3 := blk_frozen BK176.out 3
                         have hfz47_4 := blk_frozen BK176.out 4
                         have hfz47_5 := blk_frozen BK176.out 5
                         go_wp2
                         refine bodyPost_ret (results_ct rfl _ _ gb176 27 #[.int .i64 0, .int .i64 0, .int .i64 0, .int .i64 0, .int .i64 0, .slice none 0 0] (0, 0) _ rfl (by (with_reducible repeat (first | refine blk_drewN ?_ _ | refine blk_drew ?_ | refine blk_alloc ?_ _)); refine blk_put (cs := #[.int .i64 0, .int .i64 0, .int .i64 0, .int .i64 0, .int .i64 0, .slice none 0 0]) ?_ 5 _ rfl; (with_reducible repeat (first | refine blk_drewN ?_ _ | refine blk_drew ?_ | refine blk_alloc ?_ _)); refine blk_put (cs := #[.int .i64 0, .int .i64 0, .int .i64 0, .int .i64 0, .int .i64 0, .slice none 0 0]) ?_ 4 _ rfl; (with_reducible repeat (first | refine blk_drewN ?_ _ | refine blk_drew ?_ | refine blk_alloc ?_ _)); refine blk_put (cs := #[.int .i64 0, .int .i64 0, .int .i64 0, .int .i64 0, .int .i64 0, .slice none 0 0]) ?_ 3 _ rfl; (with_reducible repeat (first | refine blk_drewN ?_ _ | refine blk_drew ?_ | refine blk_alloc ?_ _)); refine blk_put (cs := #[.int .i64 0, .int .i64 0, .int .i64 0, .int .i64 0, .int .i64 0, .slice none 0 0]) ?_ 2 _ rfl; (with_reducible repeat (first | refine blk_drewN ?_ _ | refine blk_drew ?_ | refine blk_alloc ?_ _)); refine blk_put (cs := #[.int .i64 0, .int .i64 0, .int .i64 0, .int .i64 0, .int .i64 0, .slice none 0 0]) ?_ 1 _ rfl; (with_reducible repeat (first | refine blk_drewN ?_ _ | refine blk_drew ?_ | refine blk_alloc ?_ _)); refine blk_put (cs := #[.int .i64 0, .int .i64 0, .int .i64 0, .int .i64 0, .int .i64 0, .slice none 0 0]) ?_ 0 _ rfl; (with_reducible repeat (first | refine blk_drewN ?_ _ | refine blk_drew ?_ | refine blk_alloc ?_ _)); exact BK176.out) Try.underlying27 rfl (by kernel_rfl)) rfl ?_
                         exact ⟨_, by first | rfl | (simp [errW_none, errW_some] <;> rfl) | (simp [*, errW_none, errW_some] <;> rfl), by first | exact Kd.R_nil _ _ _ _ _ | exact Kd.N_nil _ _ _ _ _ | exact Kd.V_nil _ _ _ _ _ | exact Kd.Q_nil _ _ _ _ _ | exact Kd.S_nil _ _ _ _ _, by repeat (first | (with_reducible first | exact HB.out | apply below_alloc | apply pw_below_drewN | apply below_drew1 | refine below_set ?_ GE176.out | refine below_set ?_ GE184.out) | exact HB.out)⟩
                       · replace c45 := Bool.eq_false_iff.mpr c45
                         subst c45
                         have H1 : ((keepsakeref20_Long.f (wrap64 (rd l0 5)) (wrap64 (rd l0 6)) (wrap64 (rd l0 7)) (wrap64 (rd l0 8)) (wrap64 (rd l0 9)) ([] : List Int)).bind fun t191 => (if (l0.length : Int) < (wrap64 (16 + t191)) then (some (0, 0, 0, 0, 0, ([] : List Int), 5)) else ((keepsakeref20_Long.f (wrap64 (rd l0 5)) (wrap64 (rd l0 6)) (wrap64 (rd l0 7)) (wrap64 (rd l0 8)) (wrap64 (rd l0 9)) ([] : List Int)).bind fun t192 => (if (l0.length : Int) > (wrap64 (16 + t192)) then (some (0, 0, 0, 0, 0, ([] : List Int), 14)) else ((some (([] : List Int) : List Int)).bind fun y193 => (if 12 ≤ (l0.length : Int) then (if y193.length + (l0.take 12).length < 140737488355328 then ((some (y193 ++ (l0.take 12) : List Int)).bind fun y197 => (if 16 ≤ (l0.length : Int) then (if y197.length + (l0.drop 16).length < 140737488355328 then (if 12 ≤ 16 then ((keepsakeref04_Number.f kj23 ((l0.take 16).drop 12)).bind fun t205 => ((keepsakeref01_Sum.f kj23 (y197 ++ (l0.drop 16))).bind fun t206 => (if t205 = (IntKind.u64.wrap (t206)) then ((some (([] : List Int) : List Int)).bind fun y207 => (if y207.length + (l0.drop 16).length < 140737488355328 then (some ((wrap64 (rd l0 5)), (wrap64 (rd l0 6)), (wrap64 (rd l0 7)), (wrap64 (rd l0 8)), (wrap64 (rd l0 9)), (y207 ++ (l0.drop 16)), 0)) else (none))) else (some (0, 0, 0, 0, 0, ([] : List Int), 8))))) else (none)) else (none)) else (none))) else (none)) else (none))))))) = some (r1, r2, r3, r4, r5, r6, r7) := by rw [if_neg (show ¬ (false = true) by decide)] at H; exact H
                         clear H
                         have H := H1
                         clear H1
                         replace H := Option.bind_eq_some_iff.mp H
                         obtain ⟨t191, A480, H⟩ := H
                         replace H : (if (l0.length : Int) < (wrap64 (16 + t191)) then (some (0, 0, 0, 0, 0, ([] : List Int), 5)) else ((keepsakeref20_Long.f (wrap64 (rd l0 5)) (wrap64 (rd l0 6)) (wrap64 (rd l0 7)) (wrap64 (rd l0 8)) (wrap64 (rd l0 9)) ([] : List Int)).bind fun t192 => (if (l0.length : Int) > (wrap64 (16 + t192)) then (some (0, 0, 0, 0, 0, ([] : List Int), 14)) else ((some (([] : List Int) : List Int)).bind fun y193 => (if 12 ≤ (l0.length : Int) then (if y193.length + (l0.take 12).length < 140737488355328 then ((some (y193 ++ (l0.take 12) : List Int)).bind fun y197 => (if 16 ≤ (l0.length : Int) then (if y197.length + (l0.drop 16).length < 140737488355328 then (if 12 ≤ 16 then ((keepsakeref04_Number.f kj23 ((l0.take 16).drop 12)).bind fun t205 => ((keepsakeref01_Sum.f kj23 (y197 ++ (l0.drop 16))).bind fun t206 => (if t205 = (IntKind.u64.wrap (t206)) then ((some (([] : List Int) : List Int)).bind fun y207 => (if y207.length + (l0.drop 16).length < 140737488355328 then (some ((wrap64 (rd l0 5)), (wrap64 (rd l0 6)), (wrap64 (rd l0 7)), (wrap64 (rd l0 8)), (wrap64 (rd l0 9)), (y207 ++ (l0.drop 16)), 0)) else (none))) else (some (0, 0, 0, 0, 0, ([] : List Int), 8))))) else (none)) else (none)) else (none))) else (none)) else (none)))))) = some (r1, r2, r3, r4, r5, r6, r7) := H
                         have A48 := Aside0.mk A480
                         clear A480
                         by_cases c49 : (l0.length : Int) < (wrap64 (16 + t191))
                         · rw [if_pos c49] at H
                           have c49b0 : decide ((l0.length : Int) < (wrap64 (16 + t191))) = true := decide_eq_true c49
                           clear c49
                           simp only [Option.some.injEq, Prod.mk.injEq] at H
                           obtain ⟨rfl, rfl, rfl, rfl, rfl, rfl, rfl⟩ := H
                           have hnb50 := NB184_176.out
                           have hnc50 := NB176_184.out
                           have hcz51_0 : wc.cell? ⟨gb184, 0, none⟩ = some (.int .i64 (wrap64 (rd l0 5))) := (blk_cell BK184.out 0).trans rfl
                           have hcz51_1 : wc.cell? ⟨gb184, 1, none⟩ = some (.int .i64 (wrap64 (rd l0 6))) := (blk_cell BK184.out 1).trans rfl
                           have hcz51_2 : wc.cell? ⟨gb184, 2, none⟩ = some (.int .i64 (wrap64 (rd l0 7))) := (blk_cell BK184.out 2).trans rfl
                           have hcz51_3 : wc.cell? ⟨gb184, 3, none⟩ = some (.int .i64 (wrap64 (rd l0 8))) := (blk_cell BK184.out 3).trans rfl
                           have hcz51_4 : wc.cell? ⟨gb184, 4, none⟩ = some (.int .i64 (wrap64 (rd l0 9))) := (blk_cell BK184.out 4).trans rfl
                           have hcz51_5 : wc.cell? ⟨gb184, 5, none⟩ = some (.slice none 0 0) := (blk_cell BK184.out 5).trans rfl
                           have hfz51_0 := blk_frozen BK184.out 0
                           have hfz51_1 := blk_frozen BK184.out 1
                           have hfz51_2 := blk_frozen BK184.out 2
                           have hfz51_3 := blk_frozen BK184.out 3
                           have hfz51_4 := blk_frozen BK184.out 4
                           have hfz51_5 := blk_frozen BK184.out 5
                           go_wp2_with (first | ((with_reducible refine gate_callee (f := 19) rfl ?_); refine goesL_ (some 82) rfl rfl Try.func19 (by kernel_rfl) rfl #[.agg #[.int .i64 (wrap64 (rd l0 5)), .int .i64 (wrap64 (rd l0 6)), .int .i64 (wrap64 (rd l0 7)), .int .i64 (wrap64 (rd l0 8)), .int .i64 (wrap64 (rd l0 9)), .slice none 0 0]] rfl (by (try simp only [List.map_toArray, List.map_cons, List.map_nil]); first | done | rfl | (simp only [List.length_drop, List.length_take]; rfl)) ?_; (refine (keepsakeref20_Long.calls (wrap64 (rd l0 5)) (wrap64 (rd l0 6)) (wrap64 (rd l0 7)) (wrap64 (rd l0 8)) (wrap64 (rd l0 9)) _ _ ([] : List Int) t191 _ ?side1 ?side2 A48.out).mono ?_); (case side1 => exact Kd.C_nil _ _); (case side2 => exact Nat.le_refl _); rintro e w52 ⟨rfl, hb⟩; refine ⟨_, rfl, ?_⟩; have n0_ := Aside0.mk (blk_below (g := gb176) (o := .cells #[.int .i64 0, .int .i64 0, .int .i64 0, .int .i64 0, .int .i64 0, .slice none 0 0] 27 (0, 0)) (by (with_reducible repeat (first | refine blk_drewN ?_ _ | refine blk_drew ?_ | refine blk_alloc ?_ _)); exact BK176.out) hb); have n1_ := Aside0.mk (blk_below (g := gb184) (o := .cells #[.int .i64 (wrap64 (rd l0 5)), .int .i64 (wrap64 (rd l0 6)), .int .i64 (wrap64 (rd l0 7)), .int .i64 (wrap64 (rd l0 8)), .int .i64 (wrap64 (rd l0 9)), .slice none 0 0] 27 (0, 0)) (by (with_reducible repeat (first | refine blk_drewN ?_ _ | refine blk_drew ?_ | refine blk_alloc ?_ _)); exact BK184.out) hb); have n2_ := Aside0.mk (below_step (by repeat (first | (with_reducible first | exact HB.out | apply below_alloc | apply pw_below_drewN | apply below_drew1 | refine below_set ?_ GE176.out | refine below_set ?_ GE184.out) | exact HB.out)) hb); clear BK176; clear BK184; clear HB; have BK176 := n0_; have BK184 := n1_; have HB := n2_; clear n0_ n1_ n2_; (try clear hb); (try clear hb2); (try clear hk); (try clear hi); have hcz53_0 : w52.cell? ⟨gb176, 0, none⟩ = some (.int .i64 0) := (blk_cell BK176.out 0).trans rfl; have hcz53_1 : w52.cell? ⟨gb176, 1, none⟩ = some (.int .i64 0) := (blk_cell BK176.out 1).trans rfl; have hcz53_2 : w52.cell? ⟨gb176, 2, none⟩ = some (.int .i64 0) := (blk_cell BK176.out 2).trans rfl; have hcz53_3 : w52.cell? ⟨gb176, 3, none⟩ = some (.int .i64 0) := (blk_cell BK176.out 3).trans rfl; have hcz53_4 : w52.cell? ⟨gb176, 4, none⟩ = some (.int .i64 0) := (blk_cell BK176.out 4).trans rfl; have hcz53_5 : w52.cell? ⟨gb176, 5, none⟩ = some (.slice none 0 0) := (blk_cell BK176.out 5).trans rfl; have hfz53_0 := blk_frozen BK176.out 0; have hfz53_1 := blk_frozen BK176.out 1; have hfz53_2 := blk_frozen BK176.out 2; have hfz53_3 := blk_frozen BK176.out 3; have hfz53_4 := blk_frozen BK176.out 4; have hfz53_5 := blk_frozen BK176.out 5))
                           refine bodyPost_ret (results_ct rfl _ _ gb176 27 #[.int .i64 0, .int .i64 0, .int .i64 0, .int .i64 0, .int .i64 0, .slice none 0 0] (0, 0) _ rfl (by (with_reducible repeat (first | refine blk_drewN ?_ _ | refine blk_drew ?_ | refine blk_alloc ?_ _)); refine blk_put (cs := #[.int .i64 0, .int .i64 0, .int .i64 0, .int .i64 0, .int .i64 0, .slice none 0 0]) ?_ 5 _ rfl; (with_reducible repeat (first | refine blk_drewN ?_ _ | refine blk_drew ?_ | refine blk_alloc ?_ _)); refine blk_put (cs := #[.int .i64 0, .int .i64 0, .int .i64 0, .int .i64 0, .int .i64 0, .slice none 0 0]) ?_ 4 _ rfl; (with_reducible repeat (first | refine blk_drewN ?_ _ | refine blk_drew ?_ | refine blk_alloc ?_ _)); refine blk_put (cs := #[.int .i64 0, .int .i64 0, .int .i64 0, .int .i64 0, .int .i64 0, .slice none 0 0]) ?_ 3 _ rfl; (with_reducible repeat (first | refine blk_drewN ?_ _ | refine blk_drew ?_ | refine blk_alloc ?_ _)); refine blk_put (cs := #[.int .i64 0, .int .i64 0, .int .i64 0, .int .i64 0, .int .i64 0, .slice none 0 0]) ?_ 2 _ rfl; (with_reducible repeat (first | refine blk_drewN ?_ _ | refine blk_drew ?_ | refine blk_alloc ?_ _)); refine blk_put (cs := #[.int .i64 0, .int .i64 0, .int .i64 0, .int .i64 0, .int .i64 0, .slice none 0 0]) ?_ 1 _ rfl; (with_reducible repeat (first | refine blk_drewN ?_ _ | refine blk_drew ?_ | refine blk_alloc ?_ _)); refine blk_put (cs := #[.int .i64 0, .int .i64 0, .int .i64 0, .int .i64 0, .int .i64 0, .slice none 0 0]) ?_ 0 _ rfl; (with_reducible repeat (first | refine blk_drewN ?_ _ | refine blk_drew ?_ | refine blk_alloc ?_ _)); exact BK176.out) Try.underlying27 rfl (by kernel_rfl)) rfl ?_
                           exact ⟨_, by first | rfl | (simp [errW_none, errW_some] <;> rfl) | (simp [*, errW_none, errW_some] <;> rfl), by first | exact Kd.R_nil _ _ _ _ _ | exact Kd.N_nil _ _ _ _ _ | exact Kd.V_nil _ _ _ _ _ | exact Kd.Q_nil _ _ _ _ _ | exact Kd.S_nil _ _ _ _ _, by repeat (first | (with_reducible first | exact HB.out | apply below_alloc | apply pw_below_drewN | apply below_drew1 | refine below_set ?_ GE176.out | refine below_set ?_ GE184.out) | exact HB.out)⟩
                         · rw [if_neg c49] at H
                           have c49b0 : decide ((l0.length : Int) < (wrap64 (16 + t191))) = false := decide_eq_false c49
                           clear c49
                           replace H := Option.bind_eq_some_iff.mp H
                           obtain ⟨t192, A540, H⟩ := H
                           replace H : (if (l0.length : Int) > (wrap64 (16 + t192)) then (some (0, 0, 0, 0, 0, ([] : List Int), 14)) else ((some (([] : List Int) : List Int)).bind fun y193 => (if 12 ≤ (l0.length : Int) then (if y193.length + (l0.take 12).length < 140737488355328 then ((some (y193 ++ (l0.take 12) : List Int)).bind fun y197 => (if 16 ≤ (l0.length : Int) then (if y197.length + (l0.drop 16).length < 140737488355328 then (if 12 ≤ 16 then ((keepsakeref04_Number.f kj23 ((l0.take 16).drop 12)).bind fun t205 => ((keepsakeref01_Sum.f kj23 (y197 ++ (l0.drop 16))).bind fun t206 => (if t205 = (IntKind.u64.wrap (t206)) then ((some (([] : List Int) : List Int)).bind fun y207 => (if y207.length + (l0.drop 16).length < 140737488355328 then (some ((wrap64 (rd l0 5)), (wrap64 (rd l0 6)), (wrap64 (rd l0 7)), (wrap64 (rd l0 8)), (wrap64 (rd l0 9)), (y207 ++ (l0.drop 16)), 0)) else (none))) else (some (0, 0, 0, 0, 0, ([] : List Int), 8))))) else (none)) else (none)) else (none))) else (none)) else (none)))) = some (r1, r2, r3, r4, r5, r6, r7) := H
                           have A54 := Aside0.mk A540
                           clear A540
                           by_cases c55 : (l0.length : Int) > (wrap64 (16 + t192))
                           · rw [if_pos c55] at H
                             have c55b0 : decide ((wrap64 (16 + t192)) < (l0.length : Int)) = true := decide_eq_true c55
                             clear c55
                             simp only [Option.some.injEq, Prod.mk.injEq] at H
                             obtain ⟨rfl, rfl, rfl, rfl, rfl, rfl, rfl⟩ := H
                             have hnb56 := NB184_176.out
                             have hnc56 := NB176_184.out
                             have hcz57_0 : wc.cell? ⟨gb184, 0, none⟩ = some (.int .i64 (wrap64 (rd l0 5))) := (blk_cell BK184.out 0).trans rfl
                             have hcz57_1 : wc.cell? ⟨gb184, 1, none⟩ = some (.int .i64 (wrap64 (rd l0 6))) := (blk_cell BK184.out 1).trans rfl
                             have hcz57_2 : wc.cell? ⟨gb184, 2, none⟩ = some (.int .i64 (wrap64 (rd l0 7))) := (blk_cell BK184.out 2).trans rfl
                             have hcz57_3 : wc.cell? ⟨gb184, 3, none⟩ = some (.int .i64 (wrap64 (rd l0 8))) := (blk_cell BK184.out 3).trans rfl
                             have hcz57_4 : wc.cell? ⟨gb184, 4, none⟩ = some (.int .i64 (wrap64 (rd l0 9))) := (blk_cell BK184.out 4).trans rfl
                             have hcz57_5 : wc.cell? ⟨gb184, 5, none⟩ = some (.slice none 0 0) := (blk_cell BK184.out 5).trans rfl
                             have hfz57_0 := blk_frozen BK184.out 0
                             have hfz57_1 := blk_frozen BK184.out 1
                             have hfz57_2 := blk_frozen BK184.out 2
                             have hfz57_3 := blk_frozen BK184.out 3
                             have hfz57_4 := blk_frozen BK184.out 4
                             have hfz57_5 := blk_frozen BK184.out 5
                             go_wp2_with (first | ((with_reducible refine gate_callee (f := 19) rfl ?_); refine goesL_ (some 82) rfl rfl Try.func19 (by kernel_rfl) rfl #[.agg #[.int .i64 (wrap64 (rd l0 5)), .int .i64 (wrap64 (rd l0 6)), .int .i64 (wrap64 (rd l0 7)), .int .i64 (wrap64 (rd l0 8)), .int .i64 (wrap64 (rd l0 9)), .slice none 0 0]] rfl (by (try simp only [List.map_toArray, List.map_cons, List.map_nil]); first | done | rfl | (simp only [List.length_drop, List.length_take]; rfl)) ?_; (refine (keepsakeref20_Long.calls (wrap64 (rd l0 5)) (wrap64 (rd l0 6)) (wrap64 (rd l0 7)) (wrap64 (rd l0 8)) (wrap64 (rd l0 9)) _ _ ([] : List Int) t191 _ ?side1 ?side2 A48.out).mono ?_); (case side1 => exact Kd.C_nil _ _); (case side2 => exact Nat.le_refl _); rintro e w58 ⟨rfl, hb⟩; refine ⟨_, rfl, ?_⟩; have n0_ := Aside0.mk (blk_below (g := gb176) (o := .cells #[.int .i64 0, .int .i64 0, .int .i64 0, .int .i64 0, .int .i64 0, .slice none 0 0] 27 (0, 0)) (by (with_reducible repeat (first | refine blk_drewN ?_ _ | refine blk_drew ?_ | refine blk_alloc ?_ _)); exact BK176.out) hb); have n1_ := Aside0.mk (blk_below (g := gb184) (o := .cells #[.int .i64 (wrap64 (rd l0 5)), .int .i64 (wrap64 (rd l0 6)), .int .i64 (wrap64 (rd l0 7)), .int .i64 (wrap64 (rd l0 8)), .int .i64 (wrap64 (rd l0 9)), .slice none 0 0] 27 (0, 0)) (by (with_reducible repeat (first | refine blk_drewN ?_ _ | refine blk_drew ?_ | refine blk_alloc ?_ _)); exact BK184.out) hb); have n2_ := Aside0.mk (below_step (by repeat (first | (with_reducible first | exact HB.out | apply below_alloc | apply pw_below_drewN | apply below_drew1 | refine below_set ?_ GE176.out | refine below_set ?_ GE184.out) | exact HB.out)) hb); clear BK176; clear BK184; clear HB; have BK176 := n0_; have BK184 := n1_; have HB := n2_; clear n0_ n1_ n2_; (try clear hb); (try clear hb2); (try clear hk); (try clear hi); have hcz59_0 : w58.cell? ⟨gb184, 0, none⟩ = some (.int .i64 (wrap64 (rd l0 5))) := (blk_cell BK184.out 0).trans rfl; have hcz59_1 : w58.cell? ⟨gb184, 1, none⟩ = some (.int .i64 (wrap64 (rd l0 6))) := (blk_cell BK184.out 1).trans rfl; have hcz59_2 : w58.cell? ⟨gb184, 2, none⟩ = some (.int .i64 (wrap64 (rd l0 7))) := (blk_cell BK184.out 2).trans rfl; have hcz59_3 : w58.cell? ⟨gb184, 3, none⟩ = some (.int .i64 (wrap64 (rd l0 8))) := (blk_cell BK184.out 3).trans rfl; have hcz59_4 : w58.cell? ⟨gb184, 4, none⟩ = some (.int .i64 (wrap64 (rd l0 9))) := (blk_cell BK184.out 4).trans rfl; have hcz59_5 : w58.cell? ⟨gb184, 5, none⟩ = some (.slice none 0 0) := (blk_cell BK184.out 5).trans rfl; have hfz59_0 := blk_frozen BK184.out 0; have hfz59_1 := blk_frozen BK184.out 1; have hfz59_2 := blk_frozen BK184.out 2; have hfz59_3 := blk_frozen BK184.out 3; have hfz59_4 := blk_frozen BK184.out 4; have hfz59_5 := blk_frozen BK184.out 5) | ((with_reducible refine gate_callee (f := 19) rfl ?_); refine goesL_ (some 89) rfl rfl Try.func19 (by kernel_rfl) rfl #[.agg #[.int .i64 (wrap64 (rd l0 5)), .int .i64 (wrap64 (rd l0 6)), .int .i64 (wrap64 (rd l0 7)), .int .i64 (wrap64 (rd l0 8)), .int .i64 (wrap64 (rd l0 9)), .slice none 0 0]] rfl (by (try simp only [List.map_toArray, List.map_cons, List.map_nil]); first | done | rfl | (simp only [List.length_drop, List.length_take]; rfl)) ?_; (refine (keepsakeref20_Long.calls (wrap64 (rd l0 5)) (wrap64 (rd l0 6)) (wrap64 (rd l0 7)) (wrap64 (rd l0 8)) (wrap64 (rd l0 9)) _ _ ([] : List Int) t192 _ ?side1 ?side2 A54.out).mono ?_); (case side1 => exact Kd.C_nil _ _); (case side2 => exact Nat.le_refl _); rintro e w60 ⟨rfl, hb⟩; refine ⟨_, rfl, ?_⟩; have n0_ := Aside0.mk (blk_below (g := gb176) (o := .cells #[.int .i64 0, .int .i64 0, .int .i64 0, .int .i64 0, .int .i64 0, .slice none 0 0] 27 (0, 0)) (by (with_reducible repeat (first | refine blk_drewN ?_ _ | refine blk_drew ?_ | refine blk_alloc ?_ _)); exact BK176.out) hb); have n1_ := Aside0.mk (blk_below (g := gb184) (o := .cells #[.int .i64 (wrap64 (rd l0 5)), .int .i64 (wrap64 (rd l0 6)), .int .i64 (wrap64 (rd l0 7)), .int .i64 (wrap64 (rd l0 8)), .int .i64 (wrap64 (rd l0 9)), .slice none 0 0] 27 (0, 0)) (by (with_reducible repeat (first | refine blk_drewN ?_ _ | refine blk_drew ?_ | refine blk_alloc ?_ _)); exact BK184.out) hb); have n2_ := Aside0.mk (below_step (by repeat (first | (with_reducible first | exact HB.out | apply below_alloc | apply pw_below_drewN | apply below_drew1 | refine below_set ?_ GE176.out | refine below_set ?_ GE184.out) | exact HB.out)) hb); clear BK176; clear BK184; clear HB; have BK176 := n0_; have BK184 := n1_; have HB := n2_; clear n0_ n1_ n2_; (try clear hb); (try clear hb2); (try clear hk); (try clear hi); have hcz61_0 : w60.cell? ⟨gb176, 0, none⟩ = some (.int .i64 0) := (blk_cell BK176.out 0).trans rfl; have hcz61_1 : w60.cell? ⟨gb176, 1, none⟩ = some (.int .i64 0) := (blk_cell BK176.out 1).trans rfl; have hcz61_2 : w60.cell? ⟨gb176, 2, none⟩ = some (.int .i64 0) := (blk_cell BK176.out 2).trans rfl; have hcz61_3 : w60.cell? ⟨gb176, 3, none⟩ = some (.int .i64 0) := (blk_cell BK176.out 3).trans rfl; have hcz61_4 : w60.cell? ⟨gb176, 4, none⟩ = some (.int .i64 0) := (blk_cell BK176.out 4).trans rfl; have hcz61_5 : w60.cell? ⟨gb176, 5, none⟩ = some (.slice none 0 0) := (blk_cell BK176.out 5).trans rfl; have hfz61_0 := blk_frozen BK176.out 0; have hfz61_1 := blk_frozen BK176.out 1; have hfz61_2 := blk_frozen BK176.out 2; have hfz61_3 := blk_frozen BK176.out 3; have hfz61_4 := blk_frozen BK176.out 4; have hfz61_5 := blk_frozen BK176.out 5))
                             refine bodyPost_ret (results_ct rfl _ _ gb176 27 #[.int .i64 0, .int .i64 0, .int .i64 0, .int .i64 0, .int .i64 0, .slice none 0 0] (0, 0) _ rfl (by (with_reducible repeat (first | refine blk_drewN ?_ _ | refine blk_drew ?_ | refine blk_alloc ?_ _)); refine blk_put (cs := #[.int .i64 0, .int .i64 0, .int .i64 0, .int .i64 0, .int .i64 0, .slice none 0 0]) ?_ 5 _ rfl; (with_reducible repeat (first | refine blk_drewN ?_ _ | refine blk_drew ?_ | refine blk_alloc ?_ _)); refine blk_put (cs := #[.int .i64 0, .int .i64 0, .int .i64 0, .int .i64 0, .int .i64 0, .slice none 0 0]) ?_ 4 _ rfl; (with_reducible repeat (first | refine blk_drewN ?_ _ | refine blk_drew ?_ | refine blk_alloc ?_ _)); refine blk_put (cs := #[.int .i64 0, .int .i64 0, .int .i64 0, .int .i64 0, .int .i64 0, .slice none 0 0]) ?_ 3 _ rfl; (with_reducible repeat (first | refine blk_drewN ?_ _ | refine blk_drew ?_ | refine blk_alloc ?_ _)); refine blk_put (cs := #[.int .i64 0, .int .i64 0, .int .i64 0, .int .i64 0, .int .i64 0, .slice none 0 0]) ?_ 2 _ rfl; (with_reducible repeat (first | refine blk_drewN ?_ _ | refine blk_drew ?_ | refine blk_alloc ?_ _)); refine blk_put (cs := #[.int .i64 0, .int .i64 0, .int .i64 0, .int .i64 0, .int .i64 0, .slice none 0 0]) ?_ 1 _ rfl; (with_reducible repeat (first | refine blk_drewN ?_ _ | refine blk_drew ?_ | refine blk_alloc ?_ _)); refine blk_put (cs := #[.int .i64 0, .int .i64 0, .int .i64 0, .int .i64 0, .int .i64 0, .slice none 0 0]) ?_ 0 _ rfl; (with_reducible repeat (first | refine blk_drewN ?_ _ | refine blk_drew ?_ | refine blk_alloc ?_ _)); exact BK176.out) Try.underlying27 rfl (by kernel_rfl)) rfl ?_
                             exact ⟨_, by first | rfl | (simp [errW_none, errW_some] <;> rfl) | (simp [*, errW_none, errW_some] <;> rfl), by first | exact Kd.R_nil _ _ _ _ _ | exact Kd.N_nil _ _ _ _ _ | exact Kd.V_nil _ _ _ _ _ | exact Kd.Q_nil _ _ _ _ _ | exact Kd.S_nil _ _ _ _ _, by repeat (first | (with_reducible first | exact HB.out | apply below_alloc | apply pw_below_drewN | apply below_drew1 | refine below_set ?_ GE176.out | refine below_set ?_ GE184.out) | exact HB.out)⟩
                           · rw [if_neg c55] at H
                             have c55b0 : decide ((wrap64 (16 + t192)) < (l0.length : Int)) = false := decide_eq_false c55
                             clear c55
                             obtain ⟨y193, hy193⟩ : ∃ y_ : List Int, y_ = (([] : List Int)) := ⟨_, rfl⟩
                             replace H : (if 12 ≤ (l0.length : Int) then (if y193.length + (l0.take 12).length < 140737488355328 then ((some (y193 ++ (l0.take 12) : List Int)).bind fun y197 => (if 16 ≤ (l0.length : Int) then (if y197.length + (l0.drop 16).length < 140737488355328 then (if 12 ≤ 16 then ((keepsakeref04_Number.f kj23 ((l0.take 16).drop 12)).bind fun t205 => ((keepsakeref01_Sum.f kj23 (y197 ++ (l0.drop 16))).bind fun t206 => (if t205 = (IntKind.u64.wrap (t206)) then ((some (([] : List Int) : List Int)).bind fun y207 => (if y207.length + (l0.drop 16).length < 140737488355328 then (some ((wrap64 (rd l0 5)), (wrap64 (rd l0 6)), (wrap64 (rd l0 7)), (wrap64 (rd l0 8)), (wrap64 (rd l0 9)), (y207 ++ (l0.drop 16)), 0)) else (none))) else (some (0, 0, 0, 0, 0, ([] : List Int), 8))))) else (none)) else (none)) else (none))) else (none)) else (none)) = some (r1, r2, r3, r4, r5, r6, r7) := by first | (rw [hy193]; with_reducible exact H) | (have H2_ := (Option.bind_some _ _).symm.trans H; rw [hy193]; with_reducible exact H2_) | (have H2_ := (Option.bind_some _ _).symm.trans H; with_reducible exact H2_) | with_reducible exact H | (rw [hy193]; exact H) | exact H
                             have Ny193 := Aside0.mk hy193
                             clear hy193
                             by_cases c62 : 12 ≤ (l0.length : Int)
                             · rw [if_pos c62] at H
                               have c62b0 := eq_true c62
                               have c62b1 : decide (12 ≤ (l0.length : Int)) = true := decide_eq_true c62
                               clear c62
                               by_cases c63 : y193.length + (l0.take 12).length < 140737488355328
                               · rw [if_pos c63] at H
                                 have LMc63 := Aside0.mk c63
                                 clear c63
                                 obtain ⟨y197, hy197⟩ : ∃ y_ : List Int, y_ = (y193 ++ (l0.take 12)) := ⟨_, rfl⟩
                                 replace H : (if 16 ≤ (l0.length : Int) then (if y197.length + (l0.drop 16).length < 140737488355328 then (if 12 ≤ 16 then ((keepsakeref04_Number.f kj23 ((l0.take 16).drop 12)).bind fun t205 => ((keepsakeref01_Sum.f kj23 (y197 ++ (l0.drop 16))).bind fun t206 => (if t205 = (IntKind.u64.wrap (t206)) then ((some (([] : List Int) : List Int)).bind fun y207 => (if y207.length + (l0.drop 16).length < 140737488355328 then (some ((wrap64 (rd l0 5)), (wrap64 (rd l0 6)), (wrap64 (rd l0 7)), (wrap64 (rd l0 8)), (wrap64 (rd l0 9)), (y207 ++ (l0.drop 16)), 0)) else (none))) else (some (0, 0, 0, 0, 0, ([] : List Int), 8))))) else (none)) else (none)) else (none)) = some (r1, r2, r3, r4, r5, r6, r7) := by first | (rw [hy197]; with_reducible exact H) | (have H2_ := (Option.bind_some _ _).symm.trans H; rw [hy197]; with_reducible exact H2_) | (have H2_ := (Option.bind_some _ _).symm.trans H; with_reducible exact H2_) | with_reducible exact H | (rw [hy197]; exact H) | exact H
                                 have Ny197 := Aside0.mk hy197
                                 clear hy197
                                 by_cases c64 : 16 ≤ (l0.length : Int)
                                 · rw [if_pos c64] at H
                                   have c64b0 := eq_true c64
                                   have c64b1 : decide (16 ≤ (l0.length : Int)) = true := decide_eq_true c64
                                   clear c64
                                   by_cases c65 : y197.length + (l0.drop 16).length < 140737488355328
                                   · rw [if_pos c65] at H
                                     have LMc65 := Aside0.mk c65
                                     clear c65
                                     obtain ⟨y201, hy201⟩ : ∃ y_ : List Int, y_ = (y197 ++ (l0.drop 16)) := ⟨_, rfl⟩
                                     replace H : (if 12 ≤ 16 then ((keepsakeref04_Number.f kj23 ((l0.take 16).drop 12)).bind fun t205 => ((keepsakeref01_Sum.f kj23 y201).bind fun t206 => (if t205 = (IntKind.u64.wrap (t206)) then ((some (([] : List Int) : List Int)).bind fun y207 => (if y207.length + (l0.drop 16).length < 140737488355328 then (some ((wrap64 (rd l0 5)), (wrap64 (rd l0 6)), (wrap64 (rd l0 7)), (wrap64 (rd l0 8)), (wrap64 (rd l0 9)), (y207 ++ (l0.drop 16)), 0)) else (none))) else (some (0, 0, 0, 0, 0, ([] : List Int), 8))))) else (none)) = some (r1, r2, r3, r4, r5, r6, r7) := by first | (rw [hy201]; with_reducible exact H) | (have H2_ := (Option.bind_some _ _).symm.trans H; rw [hy201]; with_reducible exact H2_) | (have H2_ := (Option.bind_some _ _).symm.trans H; with_reducible exact H2_) | with_reducible exact H | (rw [hy201]; exact H) | exact H
                                     have Ny201 := Aside0.mk hy201
                                     clear hy201
                                     by_cases c66 : 12 ≤ 16
                                     · rw [if_pos c66] at H
                                       have c66b0 := eq_true c66
                                       have c66b1 : decide (12 ≤ 16) = true := decide_eq_true c66
                                       clear c66
                                       have c67b0 := eq_true (of_decide_eq_true (by first | (with_reducible assumption) | assumption) : 16 ≤ (l0.length : Int))
                                       replace H := Option.bind_eq_some_iff.mp H
                                       obtain ⟨t205, A680, H⟩ := H
                                       replace H : ((keepsakeref01_Sum.f kj23 y201).bind fun t206 => (if t205 = (IntKind.u64.wrap (t206)) then ((some (([] : List Int) : List Int)).bind fun y207 => (if y207.length + (l0.drop 16).length < 140737488355328 then (some ((wrap64 (rd l0 5)), (wrap64 (rd l0 6)), (wrap64 (rd l0 7)), (wrap64 (rd l0 8)), (wrap64 (rd l0 9)), (y207 ++ (l0.drop 16)), 0)) else (none))) else (some (0, 0, 0, 0, 0, ([] : List Int), 8)))) = some (r1, r2, r3, r4, r5, r6, r7) := H
                                       have A68 := Aside0.mk A680
                                       clear A680
                                       replace H := Option.bind_eq_some_iff.mp H
                                       obtain ⟨t206, A690, H⟩ := H
                                       replace H : (if t205 = (IntKind.u64.wrap (t206)) then ((some (([] : List Int) : List Int)).bind fun y207 => (if y207.length + (l0.drop 16).length < 140737488355328 then (some ((wrap64 (rd l0 5)), (wrap64 (rd l0 6)), (wrap64 (rd l0 7)), (wrap64 (rd l0 8)), (wrap64 (rd l0 9)), (y207 ++ (l0.drop 16)), 0)) else (none))) else (some (0, 0, 0, 0, 0, ([] : List Int), 8))) = some (r1, r2, r3, r4, r5, r6, r7) := H
                                       have A69 := Aside0.mk A690
                                       clear A690
                                       by_cases c70 : t205 = (IntKind.u64.wrap (t206))
                                       · rw [if_pos c70] at H
                                         have c70b0 : (t205 == (IntKind.u64.wrap (t206))) = true := beq_iff_eq.mpr c70
                                         have c70b1 : (t205 != (IntKind.u64.wrap (t206))) = false := bne_eq_false_iff_eq.mpr c70
                                         clear c70
                                         obtain ⟨y207, hy207⟩ : ∃ y_ : List Int, y_ = (([] : List Int)) := ⟨_, rfl⟩
                                         replace H : (if y207.length + (l0.drop 16).length < 140737488355328 then (some ((wrap64 (rd l0 5)), (wrap64 (rd l0 6)), (wrap64 (rd l0 7)), (wrap64 (rd l0 8)), (wrap64 (rd l0 9)), (y207 ++ (l0.drop 16)), 0)) else (none)) = some (r1, r2, r3, r4, r5, r6, r7) := by first | (rw [hy207]; with_reducible exact H) | (have H2_ := (Option.bind_some _ _).symm.trans H; rw [hy207]; with_reducible exact H2_) | (have H2_ := (Option.bind_some _ _).symm.trans H; with_reducible exact H2_) | with_reducible exact H | (rw [hy207]; exact H) | exact H
                                         have Ny207 := Aside0.mk hy207
                                         clear hy207
                                         have c71b0 := eq_true (of_decide_eq_true (by first | (with_reducible assumption) | assumption) : 16 ≤ (l0.length : Int))
                                         by_cases c72 : y207.length + (l0.drop 16).length < 140737488355328
                                         · rw [if_pos c72] at H
                                           have LMc72 := Aside0.mk c72
                                           clear c72
                                           obtain ⟨y211, hy211⟩ : ∃ y_ : List Int, y_ = (y207 ++ (l0.drop 16)) := ⟨_, rfl⟩
                                           replace H : (some ((wrap64 (rd l0 5)), (wrap64 (rd l0 6)), (wrap64 (rd l0 7)), (wrap64 (rd l0 8)), (wrap64 (rd l0 9)), y211, 0)) = some (r1, r2, r3, r4, r5, r6, r7) := by first | (rw [hy211]; with_reducible exact H) | (have H2_ := (Option.bind_some _ _).symm.trans H; rw [hy211]; with_reducible exact H2_) | (have H2_ := (Option.bind_some _ _).symm.trans H; with_reducible exact H2_) | with_reducible exact H | (rw [hy211]; exact H) | exact H
                                           have Ny211 := Aside0.mk hy211
                                           clear hy211
                                           simp only [Option.some.injEq, Prod.mk.injEq] at H
                                           obtain ⟨rfl, rfl, rfl, rfl, rfl, rfl, rfl⟩ := H
                                           have hnb73 := NB184_176.out
                                           have hnc73 := NB176_184.out
                                           have hcz74_0 : wc.cell? ⟨gb184, 0, none⟩ = some (.int .i64 (wrap64 (rd l0 5))) := (blk_cell BK184.out 0).trans rfl
                                           have hcz74_1 : wc.cell? ⟨gb184, 1, none⟩ = some (.int .i64 (wrap64 (rd l0 6))) := (blk_cell BK184.out 1).trans rfl
                                           have hcz74_2 : wc.cell? ⟨gb184, 2, none⟩ = some (.int .i64 (wrap64 (rd l0 7))) := (blk_cell BK184.out 2).trans rfl
                                           have hcz74_3 : wc.cell? ⟨gb184, 3, none⟩ = some (.int .i64 (wrap64 (rd l0 8))) := (blk_cell BK184.out 3).trans rfl
                                           have hcz74_4 : wc.cell? ⟨gb184, 4, none⟩ = some (.int .i64 (wrap64 (rd l0 9))) := (blk_cell BK184.out 4).trans rfl
                                           have hcz74_5 : wc.cell? ⟨gb184, 5, none⟩ = some (.slice none 0 0) := (blk_cell BK184.out 5).trans rfl
                                           have hfz74_0 := blk_frozen BK184.out 0
                                           have hfz74_1 := blk_frozen BK184.out 1
                                           have hfz74_2 := blk_frozen BK184.out 2
                                           have hfz74_3 := blk_frozen BK184.out 3
                                           have hfz74_4 := blk_frozen BK184.out 4
                                           have hfz74_5 := blk_frozen BK184.out 5
                                           try go_wp2_with (first | ((with_reducible refine gate_callee (f := 19) rfl ?_); refine goesL_ (some 82) rfl rfl Try.func19 (by kernel_rfl) rfl #[.agg #[.int .i64 (wrap64 (rd l0 5)), .int .i64 (wrap64 (rd l0 6)), .int .i64 (wrap64 (rd l0 7)), .int .i64 (wrap64 (rd l0 8)), .int .i64 (wrap64 (rd l0 9)), .slice none 0 0]] rfl (by (try simp only [List.map_toArray, List.map_cons, List.map_nil]); first | done | rfl | (simp only [List.length_drop, List.length_take]; rfl)) ?_; (refine (keepsakeref20_Long.calls (wrap64 (rd l0 5)) (wrap64 (rd l0 6)) (wrap64 (rd l0 7)) (wrap64 (rd l0 8)) (wrap64 (rd l0 9)) _ _ ([] : List Int) t191 _ ?side1 ?side2 A48.out).mono ?_); (case side1 => exact Kd.C_nil _ _); (case side2 => exact Nat.le_refl _); rintro e w75 ⟨rfl, hb⟩; refine ⟨_, rfl, ?_⟩; have n0_ := Aside0.mk (blk_below (g := gb176) (o := .cells #[.int .i64 0, .int .i64 0, .int .i64 0, .int .i64 0, .int .i64 0, .slice none 0 0] 27 (0, 0)) (by (with_reducible repeat (first | refine blk_drewN ?_ _ | refine blk_drew ?_ | refine blk_alloc ?_ _)); exact BK176.out) hb); have n1_ := Aside0.mk (blk_below (g := gb184) (o := .cells #[.int .i64 (wrap64 (rd l0 5)), .int .i64 (wrap64 (rd l0 6)), .int .i64 (wrap64 (rd l0 7)), .int .i64 (wrap64 (rd l0 8)), .int .i64 (wrap64 (rd l0 9)), .slice none 0 0] 27 (0, 0)) (by (with_reducible repeat (first | refine blk_drewN ?_ _ | refine blk_drew ?_ | refine blk_alloc ?_ _)); exact BK184.out) hb); have n2_ := Aside0.mk (below_step (by repeat (first | (with_reducible first | exact HB.out | apply below_alloc | apply pw_below_drewN | apply below_drew1 | refine below_set ?_ GE176.out | refine below_set ?_ GE184.out) | exact HB.out)) hb); clear BK176; clear BK184; clear HB; have BK176 := n0_; have BK184 := n1_; have HB := n2_; clear n0_ n1_ n2_; (try clear hb); (try clear hb2); (try clear hk); (try clear hi); have hcz76_0 : w75.cell? ⟨gb184, 0, none⟩ = some (.int .i64 (wrap64 (rd l0 5))) := (blk_cell BK184.out 0).trans rfl; have hcz76_1 : w75.cell? ⟨gb184, 1, none⟩ = some (.int .i64 (wrap64 (rd l0 6))) := (blk_cell BK184.out 1).trans rfl; have hcz76_2 : w75.cell? ⟨gb184, 2, none⟩ = some (.int .i64 (wrap64 (rd l0 7))) := (blk_cell BK184.out 2).trans rfl; have hcz76_3 : w75.cell? ⟨gb184, 3, none⟩ = some (.int .i64 (wrap64 (rd l0 8))) := (blk_cell BK184.out 3).trans rfl; have hcz76_4 : w75.cell? ⟨gb184, 4, none⟩ = some (.int .i64 (wrap64 (rd l0 9))) := (blk_cell BK184.out 4).trans rfl; have hcz76_5 : w75.cell? ⟨gb184, 5, none⟩ = some (.slice none 0 0) := (blk_cell BK184.out 5).trans rfl; have hfz76_0 := blk_frozen BK184.out 0; have hfz76_1 := blk_frozen BK184.out 1; have hfz76_2 := blk_frozen BK184.out 2; have hfz76_3 := blk_frozen BK184.out 3; have hfz76_4 := blk_frozen BK184.out 4; have hfz76_5 := blk_frozen BK184.out 5) | ((with_reducible refine gate_callee (f := 19) rfl ?_); refine goesL_ (some 89) rfl rfl Try.func19 (by kernel_rfl) rfl #[.agg #[.int .i64 (wrap64 (rd l0 5)), .int .i64 (wrap64 (rd l0 6)), .int .i64 (wrap64 (rd l0 7)), .int .i64 (wrap64 (rd l0 8)), .int .i64 (wrap64 (rd l0 9)), .slice none 0 0]] rfl (by (try simp only [List.map_toArray, List.map_cons, List.map_nil]); first | done | rfl | (simp only [List.length_drop, List.length_take]; rfl)) ?_; (refine (keepsakeref20_Long.calls (wrap64 (rd l0 5)) (wrap64 (rd l0 6)) (wrap64 (rd l0 7)) (wrap64 (rd l0 8)) (wrap64 (rd l0 9)) _ _ ([] : List Int) t192 _ ?side1 ?side2 A54.out).mono ?_); (case side1 => exact Kd.C_nil _ _); (case side2 => exact Nat.le_refl _); rintro e w77 ⟨rfl, hb⟩; refine ⟨_, rfl, ?_⟩; have n0_ := Aside0.mk (blk_below (g := gb176) (o := .cells #[.int .i64 0, .int .i64 0, .int .i64 0, .int .i64 0, .int .i64 0, .slice none 0 0] 27 (0, 0)) (by (with_reducible repeat (first | refine blk_drewN ?_ _ | refine blk_drew ?_ | refine blk_alloc ?_ _)); exact BK176.out) hb); have n1_ := Aside0.mk (blk_below (g := gb184) (o := .cells #[.int .i64 (wrap64 (rd l0 5)), .int .i64 (wrap64 (rd l0 6)), .int .i64 (wrap64 (rd l0 7)), .int .i64 (wrap64 (rd l0 8)), .int .i64 (wrap64 (rd l0 9)), .slice none 0 0] 27 (0, 0)) (by (with_reducible repeat (first | refine blk_drewN ?_ _ | refine blk_drew ?_ | refine blk_alloc ?_ _)); exact BK184.out) hb); have n2_ := Aside0.mk (below_step (by repeat (first | (with_reducible first | exact HB.out | apply below_alloc | apply pw_below_drewN | apply below_drew1 | refine below_set ?_ GE176.out | refine below_set ?_ GE184.out) | exact HB.out)) hb); clear BK176; clear BK184; clear HB; have BK176 := n0_; have BK184 := n1_; have HB := n2_; clear n0_ n1_ n2_; (try clear hb); (try clear hb2); (try clear hk); (try clear hi)))
                                           have n0_ := Aside0.mk (blk_drew BK176.out)
                                           have n1_ := Aside0.mk (blk_drew BK184.out)
                                           have n2_ := Aside0.mk (below_drew1 HB.out)
                                           clear BK176
                                           clear BK184
                                           clear HB
                                           have BK176 := n0_
                                           have BK184 := n1_
                                           have HB := n2_
                                           clear n0_ n1_ n2_
                                           obtain ⟨i079, hi079, _, hsz79, _⟩ := info_parts info5
                                           obtain ⟨hcut79, hA79, hC79⟩ := print_take_of (P := Try.prog) (Value.int .u8) 0 22 5 .i64 Try.underlying22 hi079 hsz79 (some ad181) c0 l0 12 (by omega) (of_decide_eq_true (by first | (with_reducible assumption) | assumption)) HC0.out
                                           have HR196 := Aside0.mk (Kd.C_of_reads (h1 := fun _ => rfl) (hA79 _ (Kd.reads_of_C HR0.out)))
                                           have HC196 := Aside0.mk hC79
                                           clear hA79 hC79 hi079 hsz79
                                           obtain ⟨i080, hi080, _, hsz80, _⟩ := info_parts info5
                                           obtain ⟨A80, hcut80, hA80, hC80⟩ := print_drop_of (P := Try.prog) (Value.int .u8) 0 22 5 .i64 Try.underlying22 hi080 hsz80 (some ad181) c0 l0 16 (by omega) (of_decide_eq_true (by first | (with_reducible assumption) | assumption)) HC0.out
                                           have HR200 := Aside0.mk (Kd.C_of_reads (h1 := fun _ => rfl) (hA80 _ (Kd.reads_of_C HR0.out)))
                                           have HC200 := Aside0.mk hC80
                                           clear hA80 hC80 hi080 hsz80
                                           refine start_ (n := 8) (S := fun w' => True) (ds := []) #[false, false, false, false, false, false, false, false] (by kernel_rfl) rfl rfl trivial (fun hHeld => ?_); refine with_tabW keepsakeref21_Parse.tab16 keepsakeref21_Parse.bits16 (fun HT_ HW_ => ?_)
                                           generalize w77.drew = w78 at BK176 BK184 HB HR196 HR200 hHeld ⊢
                                           refine pure_ (i := 1) (N := some 94) (v := ?_) (a' := ?_) #[false, true, false, false, false, false, false, false] rfl rfl (any_of HT_.out (by kernel_rfl)) (fun _ _ _ h => h) (Or.inl ⟨by rfl, ?_⟩) ?_ ?_
                                           rotate_left
                                           · intro w'
                                             go_simp
                                             with_reducible rfl
                                           rotate_left
                                           · simp only [Act.put, List.setIfInBounds_toArray, List.set_cons_zero, List.set_cons_succ, i64_w, i32_w]
                                             rfl
                                           refine pure_ (i := 2) (N := some 95) (v := ?_) (a' := ?_) #[false, true, true, false, false, false, false, false] rfl rfl (any_of HT_.out (by kernel_rfl)) (fun _ _ _ h => h) (Or.inl ⟨by rfl, ?_⟩) ?_ ?_
                                           rotate_left
                                           · intro w'
                                             go_simp
                                             with_reducible rfl
                                           rotate_left
                                           · simp only [Act.put, List.setIfInBounds_toArray, List.set_cons_zero, List.set_cons_succ, i64_w, i32_w]
                                             rfl
                                           refine pure_ (i := 4) (N := some 97) (v := ?_) (a' := ?_) #[false, true, true, false, true, false, false, false] rfl rfl (any_of HT_.out (by kernel_rfl)) (fun _ _ _ h => h) (Or.inl ⟨by rfl, ?_⟩) ?_ ?_
                                           rotate_left
                                           · intro w'
                                             go_simp
                                             with_reducible rfl
                                           rotate_left
                                           · simp only [Act.put, List.setIfInBounds_toArray, List.set_cons_zero, List.set_cons_succ, i64_w, i32_w]
                                             rfl
                                           refine pure_ (i := 5) (N := some 98) (v := ?_) (a' := ?_) #[false, true, true, false, true, true, false, false] rfl rfl (any_of HT_.out (by kernel_rfl)) (fun _ _ _ h => h) (Or.inl ⟨by rfl, ?_⟩) ?_ ?_
                                           rotate_left
                                           · intro w'
                                             go_simp
                                             with_reducible rfl
                                           rotate_left
                                           · simp only [Act.put, List.setIfInBounds_toArray, List.set_cons_zero, List.set_cons_succ, i64_w, i32_w]
                                             rfl
                                           refine one_ (i := 0) (N := some 93) #[true, true, true, false, true, true, false, false] rfl rfl (one_of HT_.out (by kernel_rfl)) (by decide) (fun K hK => ?_)
                                           refine Kd.R_lit_step (Kd.int .u8) _ 5 ?hg (N := 93) ?hd (xs := ([] : List Int)) (inner := []) (ok := fun _ => True) (okp := fun _ => True) ?hr ?hp (fun _ hk => hk) trivial (Below.refl _ _) (Nat.le_refl _) (by simp) ?_; (case hd => rfl); (case hg => rfl); (case hr => first | (go_simp; done) | (go_simp; rfl)); (case hp => exact (Reps.none _ _))
                                           intro v194 w81 ho82 hb hg_ hnew_
                                           clear hg_ hnew_
                                           (first | rw [← Ny193.out] at ho82 | (simp only [Int.reduceToNat] at ho82; rw [← Ny193.out] at ho82))
                                           have n0_ := Aside0.mk (Kd.R_lower ho82 (below_size (by repeat (first | (with_reducible first | exact HB.out | apply below_alloc | apply pw_below_drewN | apply below_drew1 | refine below_set ?_ GE176.out | refine below_set ?_ GE184.out) | exact HB.out))))
                                           have n1_ := Aside0.mk (blk_below (g := gb176) (o := .cells #[.int .i64 0, .int .i64 0, .int .i64 0, .int .i64 0, .int .i64 0, .slice none 0 0] 27 (0, 0)) (by (with_reducible repeat (first | refine blk_drewN ?_ _ | refine blk_drew ?_ | refine blk_alloc ?_ _)); exact BK176.out) hb)
                                           have n2_ := Aside0.mk (blk_below (g := gb184) (o := .cells #[.int .i64 (wrap64 (rd l0 5)), .int .i64 (wrap64 (rd l0 6)), .int .i64 (wrap64 (rd l0 7)), .int .i64 (wrap64 (rd l0 8)), .int .i64 (wrap64 (rd l0 9)), .slice none 0 0] 27 (0, 0)) (by (with_reducible repeat (first | refine blk_drewN ?_ _ | refine blk_drew ?_ | refine blk_alloc ?_ _)); exact BK184.out) hb)
                                           have n3_ := Aside0.mk (below_step (by repeat (first | (with_reducible first | exact HB.out | apply below_alloc | apply pw_below_drewN | apply below_drew1 | refine below_set ?_ GE176.out | refine below_set ?_ GE184.out) | exact HB.out)) hb)
                                           clear BK176
                                           clear BK184
                                           clear HB
                                           have HO195 := n0_
                                           have BK176 := n1_
                                           have BK184 := n2_
                                           have HB := n3_
                                           clear n0_ n1_ n2_ n3_
                                           clear hb ho82
                                           refine hK.out _ _ trivial (fun hHeld => ?_)
                                           clear hK K
                                           refine norm_ (a' := ?_) ?_ ?_
                                           rotate_left
                                           · show Act.put _ (some 93) _ = _
                                             simp only [Act.put, List.setIfInBounds_toArray, List.set_cons_zero, List.set_cons_succ, i64_w, i32_w]
                                             rfl
                                           refine one_ (i := 3) (N := some 96) #[true, true, true, true, true, true, false, false] rfl rfl (one_of HT_.out (by kernel_rfl)) (by decide) (fun K hK => ?_)
                                           refine Kd.R_append_rows_step (Kd.int .u8) (w0 := w) w.heap.size (by rfl) (.tmp 93) (.tmp 95) 22 5 (.int .u8 0) 1 rfl Try.underlying22 info5 rfl (by decide) (by omega) v194 y193 (l0.take 12) _ _ _ (fun _ => True) (fun _ => False) rfl rfl ?aO ?aR (fun _ _ h => h) (fun _ h => h.elim) ?aF ?aB ?aS ?aL ?_
                                           (case aR => first | (rw [← List.length_take]; (repeat (first | exact (Kd.C_below HR196.out HB.out) | (with_reducible refine Kd.C_alloc ?_ _) | (with_reducible refine Kd.C_drewN ?_ _) | (with_reducible refine Kd.C_drew ?_))); done) | (rw [← show (l0.take 12).length = 12 from (by rw [List.length_take]; have h_ : (12 : Int) ≤ (l0.length : Int) := of_decide_eq_true (by first | (with_reducible assumption) | assumption); omega)]; repeat (first | exact (Kd.C_below HR196.out HB.out) | (with_reducible refine Kd.C_alloc ?_ _) | (with_reducible refine Kd.C_drewN ?_ _) | (with_reducible refine Kd.C_drew ?_))) | (repeat (first | exact (Kd.C_below HR196.out HB.out) | (with_reducible refine Kd.C_alloc ?_ _) | (with_reducible refine Kd.C_drewN ?_ _) | (with_reducible refine Kd.C_drew ?_))))
                                           (case aB => exact (by repeat (first | (with_reducible first | exact HB.out | apply below_alloc | apply pw_below_drewN | apply below_drew1 | refine below_set ?_ GE176.out | refine below_set ?_ GE184.out) | exact HB.out)))
                                           (case aF => exact (fun _ _ => trivial))
                                           (case aO => exact (by (with_reducible repeat (first | apply Kd.R_alloc | apply Kd.R_drewN | apply Kd.R_drew)); exact HO195.out))
                                           (case aS => exact (below_size (by repeat (first | (with_reducible first | exact HB.out | apply below_alloc | apply pw_below_drewN | apply below_drew1 | refine below_set ?_ GE176.out | refine below_set ?_ GE184.out) | exact HB.out))))
                                           (case aL => have := LMc63.out; have hlx_ := (show (l0.take 12).length = 12 from (by rw [List.length_take]; have h_ : (12 : Int) ≤ (l0.length : Int) := of_decide_eq_true (by first | (with_reducible assumption) | assumption); omega)); omega)
                                           intro v198 w83 ho hb hg hat
                                           rw [← Ny197.out] at ho
                                           have n0_ := Aside0.mk (blk_grown (g := gb176) (o := .cells #[.int .i64 0, .int .i64 0, .int .i64 0, .int .i64 0, .int .i64 0, .slice none 0 0] 27 (0, 0)) (by (with_reducible repeat (first | refine blk_drewN ?_ _ | refine blk_drew ?_ | refine blk_alloc ?_ _)); exact BK176.out) hg (Kd.R_ne HO195.out BK176.out (by decide)))
                                           have n1_ := Aside0.mk (blk_grown (g := gb184) (o := .cells #[.int .i64 (wrap64 (rd l0 5)), .int .i64 (wrap64 (rd l0 6)), .int .i64 (wrap64 (rd l0 7)), .int .i64 (wrap64 (rd l0 8)), .int .i64 (wrap64 (rd l0 9)), .slice none 0 0] 27 (0, 0)) (by (with_reducible repeat (first | refine blk_drewN ?_ _ | refine blk_drew ?_ | refine blk_alloc ?_ _)); exact BK184.out) hg (Kd.R_ne HO195.out BK184.out (by decide)))
                                           have n2_ := Aside0.mk (hb)
                                           have n3_ := Aside0.mk (ho)
                                           clear BK176
                                           clear BK184
                                           clear HB
                                           clear HO195
                                           have BK176 := n0_
                                           have BK184 := n1_
                                           have HB := n2_
                                           have HO199 := n3_
                                           clear n0_ n1_ n2_ n3_
                                           clear ho hb hg hat
                                           refine hK.out _ _ trivial (fun hHeld => ?_)
                                           clear hK K
                                           refine norm_ (a' := ?_) ?_ ?_
                                           rotate_left
                                           · show Act.put _ (some 96) _ = _
                                             simp only [Act.put, List.setIfInBounds_toArray, List.set_cons_zero, List.set_cons_succ, i64_w, i32_w]
                                             rfl
                                           refine one_ (i := 6) (N := some 99) #[true, true, true, true, true, true, true, false] rfl rfl (one_of HT_.out (by kernel_rfl)) (by decide) (fun K hK => ?_)
                                           refine Kd.R_append_rows_step (Kd.int .u8) (w0 := w) w.heap.size (by rfl) (.tmp 96) (.tmp 98) 22 5 (.int .u8 0) 1 rfl Try.underlying22 info5 rfl (by decide) (by omega) v198 y197 (l0.drop 16) _ _ _ (fun _ => True) (fun _ => False) rfl rfl ?aO ?aR (fun _ _ h => h) (fun _ h => h.elim) ?aF ?aB ?aS ?aL ?_
                                           (case aR => first | (rw [← List.length_take]; (repeat (first | exact (Kd.C_below HR200.out HB.out) | (with_reducible refine Kd.C_alloc ?_ _) | (with_reducible refine Kd.C_drewN ?_ _) | (with_reducible refine Kd.C_drew ?_))); done) | (rw [← show (l0.drop 16).length = (l0.length - 16) from List.length_drop]; repeat (first | exact (Kd.C_below HR200.out HB.out) | (with_reducible refine Kd.C_alloc ?_ _) | (with_reducible refine Kd.C_drewN ?_ _) | (with_reducible refine Kd.C_drew ?_))) | (repeat (first | exact (Kd.C_below HR200.out HB.out) | (with_reducible refine Kd.C_alloc ?_ _) | (with_reducible refine Kd.C_drewN ?_ _) | (with_reducible refine Kd.C_drew ?_))))
                                           (case aB => exact (by repeat (first | (with_reducible first | exact HB.out | apply below_alloc | apply pw_below_drewN | apply below_drew1 | refine below_set ?_ GE176.out | refine below_set ?_ GE184.out) | exact HB.out)))
                                           (case aF => exact (fun _ _ => trivial))
                                           (case aO => exact (by (with_reducible repeat (first | apply Kd.R_alloc | apply Kd.R_drewN | apply Kd.R_drew)); exact HO199.out))
                                           (case aS => exact (below_size (by repeat (first | (with_reducible first | exact HB.out | apply below_alloc | apply pw_below_drewN | apply below_drew1 | refine below_set ?_ GE176.out | refine below_set ?_ GE184.out) | exact HB.out))))
                                           (case aL => have := LMc65.out; have hlx_ := (show (l0.drop 16).length = (l0.length - 16) from List.length_drop); omega)
                                           intro v202 w84 ho hb hg hat
                                           rw [← Ny201.out] at ho
                                           have n0_ := Aside0.mk (blk_grown (g := gb176) (o := .cells #[.int .i64 0, .int .i64 0, .int .i64 0, .int .i64 0, .int .i64 0, .slice none 0 0] 27 (0, 0)) (by (with_reducible repeat (first | refine blk_drewN ?_ _ | refine blk_drew ?_ | refine blk_alloc ?_ _)); exact BK176.out) hg (Kd.R_ne HO199.out BK176.out (by decide)))
                                           have n1_ := Aside0.mk (blk_grown (g := gb184) (o := .cells #[.int .i64 (wrap64 (rd l0 5)), .int .i64 (wrap64 (rd l0 6)), .int .i64 (wrap64 (rd l0 7)), .int .i64 (wrap64 (rd l0 8)), .int .i64 (wrap64 (rd l0 9)), .slice none 0 0] 27 (0, 0)) (by (with_reducible repeat (first | refine blk_drewN ?_ _ | refine blk_drew ?_ | refine blk_alloc ?_ _)); exact BK184.out) hg (Kd.R_ne HO199.out BK184.out (by decide)))
                                           have n2_ := Aside0.mk (hb)
                                           have n3_ := Aside0.mk (ho)
                                           clear BK176
                                           clear BK184
                                           clear HB
                                           clear HO199
                                           have BK176 := n0_
                                           have BK184 := n1_
                                           have HB := n2_
                                           have HO203 := n3_
                                           clear n0_ n1_ n2_ n3_
                                           clear ho hb hg hat
                                           refine hK.out _ _ trivial (fun hHeld => ?_)
                                           clear hK K
                                           refine norm_ (a' := ?_) ?_ ?_
                                           rotate_left
                                           · show Act.put _ (some 99) _ = _
                                             simp only [Act.put, List.setIfInBounds_toArray, List.set_cons_zero, List.set_cons_succ, i64_w, i32_w]
                                             rfl
                                           refine pure_ (i := 7) (N := some 6) (v := ?_) (a' := ?_) #[true, true, true, true, true, true, true, true] rfl rfl (any_of HT_.out (by kernel_rfl)) (fun _ _ _ h => h) (Or.inl ⟨by rfl, ?_⟩) ?_ ?_
                                           rotate_left
                                           · intro w'
                                             go_simp
                                             with_reducible rfl
                                           rotate_left
                                           · simp only [Act.put, List.setIfInBounds_toArray, List.set_cons_zero, List.set_cons_succ, i64_w, i32_w]
                                             rfl
                                           refine done_ (done_of HT_.out (by kernel_rfl)) ?_
                                           obtain ⟨i085, hi085, _, hsz85, _⟩ := info_parts info5
                                           obtain ⟨A85, hcut85, hA85, hC85⟩ := print_mid_of (P := Try.prog) (Value.int .u8) 0 22 5 .i64 .i64 Try.underlying22 hi085 hsz85 (some ad181) c0 l0 12 16 (by omega) (by first | omega | exact of_decide_eq_true (by first | (with_reducible assumption) | assumption)) (of_decide_eq_true (by first | (with_reducible assumption) | assumption)) HC0.out
                                           have HR204 := Aside0.mk (Kd.C_of_reads (h1 := fun _ => rfl) (hA85 _ (Kd.reads_of_C HR0.out)))
                                           have HC204 := Aside0.mk hC85
                                           clear hA85 hC85 hi085 hsz85
                                           try go_wp2_with (first | ((with_reducible refine gate_callee (f := 25) rfl ?_); refine goesL_ (some 102) rfl rfl Try.func25 (by kernel_rfl) rfl #[.slice A85 ((l0.take 16).drop 12).length (c0 - 12)] rfl (by (try simp only [List.map_toArray, List.map_cons, List.map_nil]); first | done | (rw [show ((l0.take 16).drop 12).length = (16 - 12) from (by rw [List.length_drop, List.length_take]; have h_ : (16 : Int) ≤ (l0.length : Int) := of_decide_eq_true (by first | (with_reducible assumption) | assumption); omega)] <;> rfl) | rfl | (simp only [List.length_drop, List.length_take]; rfl)) ?_; (with_reducible refine (keepsakeref04_Number.calls kj23 _ _ ((l0.take 16).drop 12) t205 _ ?side1 ?side2 A68.out).mono ?_); (case side1 => repeat (first | exact (Kd.C_below HR204.out HB.out) | (with_reducible refine Kd.C_alloc ?_ _) | (with_reducible refine Kd.C_drewN ?_ _) | (with_reducible refine Kd.C_drew ?_))); (case side2 => exact HC204.out); rintro e w' ⟨rfl, ⟨nd, rfl⟩⟩; refine ⟨_, rfl, ?_⟩; (try (rw [drewN_self w84]; generalize hq_ : World.drewN w84 _ = w84; have n0_ : Aside0 (Kd.R (Kd.int .u8) 5 w84 w.heap.size (fun _ => True) v202 y201) := ⟨by rw [← hq_]; exact (by (with_reducible repeat (first | apply Kd.R_alloc | apply Kd.R_drewN | apply Kd.R_drew)); exact HO203.out)⟩; have n1_ : Aside0 (w84.heap[gb176]? = some (.cells #[.int .i64 0, .int .i64 0, .int .i64 0, .int .i64 0, .int .i64 0, .slice none 0 0] 27 (0, 0))) := ⟨by rw [← hq_]; exact (by (with_reducible repeat (first | refine blk_drewN ?_ _ | refine blk_drew ?_ | refine blk_alloc ?_ _)); exact BK176.out)⟩; have n2_ : Aside0 (w84.heap[gb184]? = some (.cells #[.int .i64 (wrap64 (rd l0 5)), .int .i64 (wrap64 (rd l0 6)), .int .i64 (wrap64 (rd l0 7)), .int .i64 (wrap64 (rd l0 8)), .int .i64 (wrap64 (rd l0 9)), .slice none 0 0] 27 (0, 0))) := ⟨by rw [← hq_]; exact (by (with_reducible repeat (first | refine blk_drewN ?_ _ | refine blk_drew ?_ | refine blk_alloc ?_ _)); exact BK184.out)⟩; have n3_ : Aside0 (Below w.heap.size w w84) := ⟨by rw [← hq_]; exact (by repeat (first | (with_reducible first | exact HB.out | apply below_alloc | apply pw_below_drewN | apply below_drew1 | refine below_set ?_ GE176.out | refine below_set ?_ GE184.out) | exact HB.out))⟩; clear HO203 BK176 BK184 HB hq_; have HO203 := n0_; have BK176 := n1_; have BK184 := n2_; have HB := n3_; clear n0_ n1_ n2_ n3_)); obtain ⟨Ao86, co86, eo86⟩ := Kd.R_slice HO203.out; subst eo86) | ((with_reducible refine gate_callee (f := 26) rfl ?_); refine goesL_ (some 104) rfl rfl Try.func26 (by kernel_rfl) rfl #[.slice Ao86 y201.length co86] rfl (by (try simp only [List.map_toArray, List.map_cons, List.map_nil]); first | done | rfl | (simp only [List.length_drop, List.length_take]; rfl)) ?_; (with_reducible refine (keepsakeref01_Sum.calls kj23 _ _ y201 t206 _ ?side1 ?side2 A69.out).mono ?_); (case side1 => repeat (first | exact (Kd.R_reads' HO203.out).2.2 | (with_reducible refine Kd.C_alloc ?_ _) | (with_reducible refine Kd.C_drewN ?_ _) | (with_reducible refine Kd.C_drew ?_))); (case side2 => exact (Kd.R_reads' HO203.out).2.1); rintro e w87 ⟨rfl, hb⟩; refine ⟨_, rfl, ?_⟩; have n0_ := Aside0.mk (Kd.R_below (by (with_reducible repeat (first | apply Kd.R_alloc | apply Kd.R_drewN | apply Kd.R_drew)); exact HO203.out) hb); have n1_ := Aside0.mk (blk_below (g := gb176) (o := .cells #[.int .i64 0, .int .i64 0, .int .i64 0, .int .i64 0, .int .i64 0, .slice none 0 0] 27 (0, 0)) (by (with_reducible repeat (first | refine blk_drewN ?_ _ | refine blk_drew ?_ | refine blk_alloc ?_ _)); exact BK176.out) hb); have n2_ := Aside0.mk (blk_below (g := gb184) (o := .cells #[.int .i64 (wrap64 (rd l0 5)), .int .i64 (wrap64 (rd l0 6)), .int .i64 (wrap64 (rd l0 7)), .int .i64 (wrap64 (rd l0 8)), .int .i64 (wrap64 (rd l0 9)), .slice none 0 0] 27 (0, 0)) (by (with_reducible repeat (first | refine blk_drewN ?_ _ | refine blk_drew ?_ | refine blk_alloc ?_ _)); exact BK184.out) hb); have n3_ := Aside0.mk (below_step (by repeat (first | (with_reducible first | exact HB.out | apply below_alloc | apply pw_below_drewN | apply below_drew1 | refine below_set ?_ GE176.out | refine below_set ?_ GE184.out) | exact HB.out)) hb); clear HO203; clear BK176; clear BK184; clear HB; have HO203 := n0_; have BK176 := n1_; have BK184 := n2_; have HB := n3_; clear n0_ n1_ n2_ n3_; (try clear hb); (try clear hb2); (try clear hk); (try clear hi)) | ((with_reducible refine gate_dst (N := 108) rfl ?_); refine Kd.R_lit (Kd.int .u8) _ 5 ?hg (N := 108) ?hd (xs := ([] : List Int)) (inner := []) (ok := fun _ => True) (okp := fun _ => True) ?hr ?hp (fun _ hk => hk) trivial (Below.refl _ _) (Nat.le_refl _) (by simp) ?_; (case hd => rfl); (case hg => rfl); (case hr => first | (go_simp; done) | (go_simp; rfl)); (case hp => exact (Reps.none _ _)); intro v208 w88 ho89 hb hg_ hnew_; clear hg_ hnew_; (first | rw [← Ny207.out] at ho89 | (simp only [Int.reduceToNat] at ho89; rw [← Ny207.out] at ho89)); have n0_ := Aside0.mk (Kd.R_elder' (by (with_reducible repeat (first | apply Kd.R_alloc | apply Kd.R_drewN | apply Kd.R_drew)); exact HO203.out) (Kd.R_base ho89) hb); have n1_ := Aside0.mk (Kd.R_lower (Kd.R_new' ho89 (Kd.R_lt (by (with_reducible repeat (first | apply Kd.R_alloc | apply Kd.R_drewN | apply Kd.R_drew)); exact HO203.out))) (below_size (by repeat (first | (with_reducible first | exact HB.out | apply below_alloc | apply pw_below_drewN | apply below_drew1 | refine below_set ?_ GE176.out | refine below_set ?_ GE184.out) | exact HB.out)))); have n2_ := Aside0.mk (blk_below (g := gb176) (o := .cells #[.int .i64 0, .int .i64 0, .int .i64 0, .int .i64 0, .int .i64 0, .slice none 0 0] 27 (0, 0)) (by (with_reducible repeat (first | refine blk_drewN ?_ _ | refine blk_drew ?_ | refine blk_alloc ?_ _)); exact BK176.out) hb); have n3_ := Aside0.mk (blk_below (g := gb184) (o := .cells #[.int .i64 (wrap64 (rd l0 5)), .int .i64 (wrap64 (rd l0 6)), .int .i64 (wrap64 (rd l0 7)), .int .i64 (wrap64 (rd l0 8)), .int .i64 (wrap64 (rd l0 9)), .slice none 0 0] 27 (0, 0)) (by (with_reducible repeat (first | refine blk_drewN ?_ _ | refine blk_drew ?_ | refine blk_alloc ?_ _)); exact BK184.out) hb); have n4_ := Aside0.mk (below_step (by repeat (first | (with_reducible first | exact HB.out | apply below_alloc | apply pw_below_drewN | apply below_drew1 | refine below_set ?_ GE176.out | refine below_set ?_ GE184.out) | exact HB.out)) hb); clear HO203; clear BK176; clear BK184; clear HB; have HO203 := n0_; have HO209 := n1_; have BK176 := n2_; have BK184 := n3_; have HB := n4_; clear n0_ n1_ n2_ n3_ n4_; clear hb ho89; obtain ⟨i090, hi090, _, hsz90, _⟩ := info_parts info5; obtain ⟨A90, hcut90, hA90, hC90⟩ := print_drop_of (P := Try.prog) (Value.int .u8) 0 22 5 .i64 Try.underlying22 hi090 hsz90 (some ad181) c0 l0 16 (by omega) (of_decide_eq_true (by first | (with_reducible assumption) | assumption)) HC0.out; have eA_ : A80 = A90 := (by have h_ := (hcut80 w).symm.trans (hcut90 w); injection h_ with h_; injection h_); subst eA_; have HR210 := Aside0.mk (Kd.C_of_reads (h1 := fun _ => rfl) (hA90 _ (Kd.reads_of_C HR0.out))); have HC210 := Aside0.mk hC90; clear hA90 hC90 hi090 hsz90) | ((with_reducible refine gate_builtin (b := .append) (xs := #[.tmp 108, .tmp 110]) rfl ?_); at_builtin; refine Kd.R_append_rows (Kd.int .u8) (w0 := w) w.heap.size rfl (.tmp 108) (.tmp 110) 22 5 (.int .u8 0) 1 rfl Try.underlying22 info5 rfl (by decide) (by omega) v208 y207 (l0.drop 16) _ _ _ (fun k_ => some k_ ≠ (.slice Ao86 y201.length co86 : Value).ownBlock) (fun _ => False) rfl rfl ?aO ?aR (fun _ _ h => h) (fun _ h => h.elim) ?aF ?aB ?aS ?aL ?_; (case aR => first | (rw [← List.length_take]; (repeat (first | exact (Kd.C_below HR210.out HB.out) | (with_reducible refine Kd.C_alloc ?_ _) | (with_reducible refine Kd.C_drewN ?_ _) | (with_reducible refine Kd.C_drew ?_))); done) | (rw [← show (l0.drop 16).length = (l0.length - 16) from List.length_drop]; repeat (first | exact (Kd.C_below HR210.out HB.out) | (with_reducible refine Kd.C_alloc ?_ _) | (with_reducible refine Kd.C_drewN ?_ _) | (with_reducible refine Kd.C_drew ?_))) | (repeat (first | exact (Kd.C_below HR210.out HB.out) | (with_reducible refine Kd.C_alloc ?_ _) | (with_reducible refine Kd.C_drewN ?_ _) | (with_reducible refine Kd.C_drew ?_)))); (case aB => exact (by repeat (first | (with_reducible first | exact HB.out | apply below_alloc | apply pw_below_drewN | apply below_drew1 | refine below_set ?_ GE176.out | refine below_set ?_ GE184.out) | exact HB.out))); (case aF => exact (fun k_ hk => Kd.fresh' (Kd.R_lt (by (with_reducible repeat (first | apply Kd.R_alloc | apply Kd.R_drewN | apply Kd.R_drew)); exact HO203.out)) k_ hk)); (case aO => exact (by (with_reducible repeat (first | apply Kd.R_alloc | apply Kd.R_drewN | apply Kd.R_drew)); exact Kd.R_mono HO209.out (fun _ hk => hk.2))); (case aS => exact (below_size (by repeat (first | (with_reducible first | exact HB.out | apply below_alloc | apply pw_below_drewN | apply below_drew1 | refine below_set ?_ GE176.out | refine below_set ?_ GE184.out) | exact HB.out)))); (case aL => have := LMc72.out; have hlx_ := (show (l0.drop 16).length = (l0.length - 16) from List.length_drop); omega); intro v212 w91 ho hb hg hat; (first | rw [← Ny211.out] at ho | (simp only [Int.reduceToNat] at ho; rw [← Ny211.out] at ho)); have n0_ := Aside0.mk (blk_grown (g := gb176) (o := .cells #[.int .i64 0, .int .i64 0, .int .i64 0, .int .i64 0, .int .i64 0, .slice none 0 0] 27 (0, 0)) (by (with_reducible repeat (first | refine blk_drewN ?_ _ | refine blk_drew ?_ | refine blk_alloc ?_ _)); exact BK176.out) hg (Kd.R_ne HO209.out BK176.out (by decide))); have n1_ := Aside0.mk (blk_grown (g := gb184) (o := .cells #[.int .i64 (wrap64 (rd l0 5)), .int .i64 (wrap64 (rd l0 6)), .int .i64 (wrap64 (rd l0 7)), .int .i64 (wrap64 (rd l0 8)), .int .i64 (wrap64 (rd l0 9)), .slice none 0 0] 27 (0, 0)) (by (with_reducible repeat (first | refine blk_drewN ?_ _ | refine blk_drew ?_ | refine blk_alloc ?_ _)); exact BK184.out) hg (Kd.R_ne HO209.out BK184.out (by decide))); have n2_ := Aside0.mk (Kd.R_after (ok := (fun _ => True)) (by (with_reducible repeat (first | apply Kd.R_alloc | apply Kd.R_drewN | apply Kd.R_drew)); exact HO203.out) hg hat); have n3_ := Aside0.mk (hb); have n4_ := Aside0.mk (ho); clear BK176; clear BK184; clear HO203; clear HB; clear HO209; have BK176 := n0_; have BK184 := n1_; have HO203 := n2_; have HB := n3_; have HO213 := n4_; clear n0_ n1_ n2_ n3_ n4_; clear ho hb hg hat; obtain ⟨Ao92, co92, eo92⟩ := Kd.R_slice HO213.out; subst eo92; have hcz93_0 : w91.cell? ⟨gb184, 0, none⟩ = some (.int .i64 (wrap64 (rd l0 5))) := (blk_cell BK184.out 0).trans rfl; have hcz93_1 : w91.cell? ⟨gb184, 1, none⟩ = some (.int .i64 (wrap64 (rd l0 6))) := (blk_cell BK184.out 1).trans rfl; have hcz93_2 : w91.cell? ⟨gb184, 2, none⟩ = some (.int .i64 (wrap64 (rd l0 7))) := (blk_cell BK184.out 2).trans rfl; have hcz93_3 : w91.cell? ⟨gb184, 3, none⟩ = some (.int .i64 (wrap64 (rd l0 8))) := (blk_cell BK184.out 3).trans rfl; have hcz93_4 : w91.cell? ⟨gb184, 4, none⟩ = some (.int .i64 (wrap64 (rd l0 9))) := (blk_cell BK184.out 4).trans rfl; have hcz93_5 : w91.cell? ⟨gb184, 5, none⟩ = some (.slice none 0 0) := (blk_cell BK184.out 5).trans rfl; have hfz93_0 := blk_frozen BK184.out 0; have hfz93_1 := blk_frozen BK184.out 1; have hfz93_2 := blk_frozen BK184.out 2; have hfz93_3 := blk_frozen BK184.out 3; have hfz93_4 := blk_frozen BK184.out 4; have hfz93_5 := blk_frozen BK184.out 5; have hcz94_0 : w91.cell? ⟨gb176, 0, none⟩ = some (.int .i64 0) := (blk_cell BK176.out 0).trans rfl; have hcz94_1 : w91.cell? ⟨gb176, 1, none⟩ = some (.int .i64 0) := (blk_cell BK176.out 1).trans rfl; have hcz94_2 : w91.cell? ⟨gb176, 2, none⟩ = some (.int .i64 0) := (blk_cell BK176.out 2).trans rfl; have hcz94_3 : w91.cell? ⟨gb176, 3, none⟩ = some (.int .i64 0) := (blk_cell BK176.out 3).trans rfl; have hcz94_4 : w91.cell? ⟨gb176, 4, none⟩ = some (.int .i64 0) := (blk_cell BK176.out 4).trans rfl; have hcz94_5 : w91.cell? ⟨gb176, 5, none⟩ = some (.slice none 0 0) := (blk_cell BK176.out 5).trans rfl; have hfz94_0 := blk_frozen BK176.out 0; have hfz94_1 := blk_frozen BK176.out 1; have hfz94_2 := blk_frozen BK176.out 2; have hfz94_3 := blk_frozen BK176.out 3; have hfz94_4 := blk_frozen BK176.out 4; have hfz94_5 := blk_frozen BK176.out 5))
                                           refine bodyPost_ret (results_ct rfl _ _ gb176 27 #[.int .i64 (wrap64 (rd l0 5)), .int .i64 (wrap64 (rd l0 6)), .int .i64 (wrap64 (rd l0 7)), .int .i64 (wrap64 (rd l0 8)), .int .i64 (wrap64 (rd l0 9)), .slice Ao92 y211.length co92] (0, 0) _ rfl (by (with_reducible repeat (first | refine blk_drewN ?_ _ | refine blk_drew ?_ | refine blk_alloc ?_ _)); refine blk_put (cs := #[.int .i64 (wrap64 (rd l0 5)), .int .i64 (wrap64 (rd l0 6)), .int .i64 (wrap64 (rd l0 7)), .int .i64 (wrap64 (rd l0 8)), .int .i64 (wrap64 (rd l0 9)), .slice none 0 0]) ?_ 5 _ rfl; (with_reducible repeat (first | refine blk_drewN ?_ _ | refine blk_drew ?_ | refine blk_alloc ?_ _)); refine blk_put (cs := #[.int .i64 (wrap64 (rd l0 5)), .int .i64 (wrap64 (rd l0 6)), .int .i64 (wrap64 (rd l0 7)), .int .i64 (wrap64 (rd l0 8)), .int .i64 0, .slice none 0 0]) ?_ 4 _ rfl; (with_reducible repeat (first | refine blk_drewN ?_ _ | refine blk_drew ?_ | refine blk_alloc ?_ _)); refine blk_put (cs := #[.int .i64 (wrap64 (rd l0 5)), .int .i64 (wrap64 (rd l0 6)), .int .i64 (wrap64 (rd l0 7)), .int .i64 0, .int .i64 0, .slice none 0 0]) ?_ 3 _ rfl; (with_reducible repeat (first | refine blk_drewN ?_ _ | refine blk_drew ?_ | refine blk_alloc ?_ _)); refine blk_put (cs := #[.int .i64 (wrap64 (rd l0 5)), .int .i64 (wrap64 (rd l0 6)), .int .i64 0, .int .i64 0, .int .i64 0, .slice none 0 0]) ?_ 2 _ rfl; (with_reducible repeat (first | refine blk_drewN ?_ _ | refine blk_drew ?_ | refine blk_alloc ?_ _)); refine blk_put (cs := #[.int .i64 (wrap64 (rd l0 5)), .int .i64 0, .int .i64 0, .int .i64 0, .int .i64 0, .slice none 0 0]) ?_ 1 _ rfl; (with_reducible repeat (first | refine blk_drewN ?_ _ | refine blk_drew ?_ | refine blk_alloc ?_ _)); refine blk_put (cs := #[.int .i64 0, .int .i64 0, .int .i64 0, .int .i64 0, .int .i64 0, .slice none 0 0]) ?_ 0 _ rfl; (with_reducible repeat (first | refine blk_drewN ?_ _ | refine blk_drew ?_ | refine blk_alloc ?_ _)); refine blk_far ?_ NB176_184.out _; (with_reducible repeat (first | refine blk_drewN ?_ _ | refine blk_drew ?_ | refine blk_alloc ?_ _)); exact BK176.out) Try.underlying27 rfl (by kernel_rfl)) rfl ?_
                                           exact ⟨_, by first | rfl | (simp [errW_none, errW_some] <;> rfl) | (simp [*, errW_none, errW_some] <;> rfl), by (with_reducible repeat (first | apply Kd.R_alloc | apply Kd.R_drewN | apply Kd.R_drew)); exact Kd.R_mono (Kd.R_far (p := ⟨gb176, 5, none⟩) (Kd.R_far (p := ⟨gb176, 4, none⟩) (Kd.R_far (p := ⟨gb176, 3, none⟩) (Kd.R_far (p := ⟨gb176, 2, none⟩) (Kd.R_far (p := ⟨gb176, 1, none⟩) (Kd.R_far (p := ⟨gb176, 0, none⟩) (Kd.R_far (p := ⟨gb184, 5, none⟩) (Kd.R_types (Kd.R_types HO213.out BK184.out (by decide)) BK176.out (by decide)) (fun _ hk => hk.1.2) (.slice Ao92 y211.length co92)) (fun _ hk => hk.2) (.int .i64 (wrap64 (rd l0 5)))) (fun _ hk => hk.2) (.int .i64 (wrap64 (rd l0 6)))) (fun _ hk => hk.2) (.int .i64 (wrap64 (rd l0 7)))) (fun _ hk => hk.2) (.int .i64 (wrap64 (rd l0 8)))) (fun _ hk => hk.2) (.int .i64 (wrap64 (rd l0 9)))) (fun _ hk => hk.2) (.slice Ao92 y211.length co92)) (fun _ hk => trivial), by repeat (first | (with_reducible first | exact HB.out | apply below_alloc | apply pw_below_drewN | apply below_drew1 | refine below_set ?_ GE176.out | refine below_set ?_ GE184.out) | exact HB.out)⟩
                                         · rw [if_neg c72] at H
                                           exact absurd H (by simp)
                                       · rw [if_neg c70] at H
                                         have c70b0 : (t205 == (IntKind.u64.wrap (t206))) = false := beq_eq_false_iff_ne.mpr c70
                                         have c70b1 : (t205 != (IntKind.u64.wrap (t206))) = true := bne_iff_ne.mpr c70
                                         simp only [Option.some.injEq, Prod.mk.injEq] at H
                                         obtain ⟨rfl, rfl, rfl, rfl, rfl, rfl, rfl⟩ := H
                                         have hnb95 := NB184_176.out
                                         have hnc95 := NB176_184.out
                                         have hcz96_0 : wc.cell? ⟨gb184, 0, none⟩ = some (.int .i64 (wrap64 (rd l0 5))) := (blk_cell BK184.out 0).trans rfl
                                         have hcz96_1 : wc.cell? ⟨gb184, 1, none⟩ = some (.int .i64 (wrap64 (rd l0 6))) := (blk_cell BK184.out 1).trans rfl
                                         have hcz96_2 : wc.cell? ⟨gb184, 2, none⟩ = some (.int .i64 (wrap64 (rd l0 7))) := (blk_cell BK184.out 2).trans rfl
                                         have hcz96_3 : wc.cell? ⟨gb184, 3, none⟩ = some (.int .i64 (wrap64 (rd l0 8))) := (blk_cell BK184.out 3).trans rfl
                                         have hcz96_4 : wc.cell? ⟨gb184, 4, none⟩ = some (.int .i64 (wrap64 (rd l0 9))) := (blk_cell BK184.out 4).trans rfl
                                         have hcz96_5 : wc.cell? ⟨gb184, 5, none⟩ = some (.slice none 0 0) := (blk_cell BK184.out 5).trans rfl
                                         have hfz96_0 := blk_frozen BK184.out 0
                                         have hfz96_1 := blk_frozen BK184.out 1
                                         have hfz96_2 := blk_frozen BK184.out 2
                                         have hfz96_3 := blk_frozen BK184.out 3
                                         have hfz96_4 := blk_frozen BK184.out 4
                                         have hfz96_5 := blk_frozen BK184.out 5
                                         try go_wp2_with (first | ((with_reducible refine gate_callee (f := 19) rfl ?_); refine goesL_ (some 82) rfl rfl Try.func19 (by kernel_rfl) rfl #[.agg #[.int .i64 (wrap64 (rd l0 5)), .int .i64 (wrap64 (rd l0 6)), .int .i64 (wrap64 (rd l0 7)), .int .i64 (wrap64 (rd l0 8)), .int .i64 (wrap64 (rd l0 9)), .slice none 0 0]] rfl (by (try simp only [List.map_toArray, List.map_cons, List.map_nil]); first | done | rfl | (simp only [List.length_drop, List.length_take]; rfl)) ?_; (refine (keepsakeref20_Long.calls (wrap64 (rd l0 5)) (wrap64 (rd l0 6)) (wrap64 (rd l0 7)) (wrap64 (rd l0 8)) (wrap64 (rd l0 9)) _ _ ([] : List Int) t191 _ ?side1 ?side2 A48.out).mono ?_); (case side1 => exact Kd.C_nil _ _); (case side2 => exact Nat.le_refl _); rintro e w97 ⟨rfl, hb⟩; refine ⟨_, rfl, ?_⟩; have n0_ := Aside0.mk (blk_below (g := gb176) (o := .cells #[.int .i64 0, .int .i64 0, .int .i64 0, .int .i64 0, .int .i64 0, .slice none 0 0] 27 (0, 0)) (by (with_reducible repeat (first | refine blk_drewN ?_ _ | refine blk_drew ?_ | refine blk_alloc ?_ _)); exact BK176.out) hb); have n1_ := Aside0.mk (blk_below (g := gb184) (o := .cells #[.int .i64 (wrap64 (rd l0 5)), .int .i64 (wrap64 (rd l0 6)), .int .i64 (wrap64 (rd l0 7)), .int .i64 (wrap64 (rd l0 8)), .int .i64 (wrap64 (rd l0 9)), .slice none 0 0] 27 (0, 0)) (by (with_reducible repeat (first | refine blk_drewN ?_ _ | refine blk_drew ?_ | refine blk_alloc ?_ _)); exact BK184.out) hb); have n2_ := Aside0.mk (below_step (by repeat (first | (with_reducible first | exact HB.out | apply below_alloc | apply pw_below_drewN | apply below_drew1 | refine below_set ?_ GE176.out | refine below_set ?_ GE184.out) | exact HB.out)) hb); clear BK176; clear BK184; clear HB; have BK176 := n0_; have BK184 := n1_; have HB := n2_; clear n0_ n1_ n2_; (try clear hb); (try clear hb2); (try clear hk); (try clear hi); have hcz98_0 : w97.cell? ⟨gb184, 0, none⟩ = some (.int .i64 (wrap64 (rd l0 5))) := (blk_cell BK184.out 0).trans rfl; have hcz98_1 : w97.cell? ⟨gb184, 1, none⟩ = some (.int .i64 (wrap64 (rd l0 6))) := (blk_cell BK184.out 1).trans rfl; have hcz98_2 : w97.cell? ⟨gb184, 2, none⟩ = some (.int .i64 (wrap64 (rd l0 7))) := (blk_cell BK184.out 2).trans rfl; have hcz98_3 : w97.cell? ⟨gb184, 3, none⟩ = some (.int .i64 (wrap64 (rd l0 8))) := (blk_cell BK184.out 3).trans rfl; have hcz98_4 : w97.cell? ⟨gb184, 4, none⟩ = some (.int .i64 (wrap64 (rd l0 9))) := (blk_cell BK184.out 4).trans rfl; have hcz98_5 : w97.cell? ⟨gb184, 5, none⟩ = some (.slice none 0 0) := (blk_cell BK184.out 5).trans rfl; have hfz98_0 := blk_frozen BK184.out 0; have hfz98_1 := blk_frozen BK184.out 1; have hfz98_2 := blk_frozen BK184.out 2; have hfz98_3 := blk_frozen BK184.out 3; have hfz98_4 := blk_frozen BK184.out 4; have hfz98_5 := blk_frozen BK184.out 5) | ((with_reducible refine gate_callee (f := 19) rfl ?_); refine goesL_ (some 89) rfl rfl Try.func19 (by kernel_rfl) rfl #[.agg #[.int .i64 (wrap64 (rd l0 5)), .int .i64 (wrap64 (rd l0 6)), .int .i64 (wrap64 (rd l0 7)), .int .i64 (wrap64 (rd l0 8)), .int .i64 (wrap64 (rd l0 9)), .slice none 0 0]] rfl (by (try simp only [List.map_toArray, List.map_cons, List.map_nil]); first | done | rfl | (simp only [List.length_drop, List.length_take]; rfl)) ?_; (refine (keepsakeref20_Long.calls (wrap64 (rd l0 5)) (wrap64 (rd l0 6)) (wrap64 (rd l0 7)) (wrap64 (rd l0 8)) (wrap64 (rd l0 9)) _ _ ([] : List Int) t192 _ ?side1 ?side2 A54.out).mono ?_); (case side1 => exact Kd.C_nil _ _); (case side2 => exact Nat.le_refl _); rintro e w99 ⟨rfl, hb⟩; refine ⟨_, rfl, ?_⟩; have n0_ := Aside0.mk (blk_below (g := gb176) (o := .cells #[.int .i64 0, .int .i64 0, .int .i64 0, .int .i64 0, .int .i64 0, .slice none 0 0] 27 (0, 0)) (by (with_reducible repeat (first | refine blk_drewN ?_ _ | refine blk_drew ?_ | refine blk_alloc ?_ _)); exact BK176.out) hb); have n1_ := Aside0.mk (blk_below (g := gb184) (o := .cells #[.int .i64 (wrap64 (rd l0 5)), .int .i64 (wrap64 (rd l0 6)), .int .i64 (wrap64 (rd l0 7)), .int .i64 (wrap64 (rd l0 8)), .int .i64 (wrap64 (rd l0 9)), .slice none 0 0] 27 (0, 0)) (by (with_reducible repeat (first | refine blk_drewN ?_ _ | refine blk_drew ?_ | refine blk_alloc ?_ _)); exact BK184.out) hb); have n2_ := Aside0.mk (below_step (by repeat (first | (with_reducible first | exact HB.out | apply below_alloc | apply pw_below_drewN | apply below_drew1 | refine below_set ?_ GE176.out | refine below_set ?_ GE184.out) | exact HB.out)) hb); clear BK176; clear BK184; clear HB; have BK176 := n0_; have BK184 := n1_; have HB := n2_; clear n0_ n1_ n2_; (try clear hb); (try clear hb2); (try clear hk); (try clear hi)))
                                         have n0_ := Aside0.mk (blk_drew BK176.out)
                                         have n1_ := Aside0.mk (blk_drew BK184.out)
                                         have n2_ := Aside0.mk (below_drew1 HB.out)
                                         clear BK176
                                         clear BK184
                                         clear HB
                                         have BK176 := n0_
                                         have BK184 := n1_
                                         have HB := n2_
                                         clear n0_ n1_ n2_
                                         obtain ⟨i0101, hi0101, _, hsz101, _⟩ := info_parts info5
                                         obtain ⟨hcut101, hA101, hC101⟩ := print_take_of (P := Try.prog) (Value.int .u8) 0 22 5 .i64 Try.underlying22 hi0101 hsz101 (some ad181) c0 l0 12 (by omega) (of_decide_eq_true (by first | (with_reducible assumption) | assumption)) HC0.out
                                         have HR196 := Aside0.mk (Kd.C_of_reads (h1 := fun _ => rfl) (hA101 _ (Kd.reads_of_C HR0.out)))
                                         have HC196 := Aside0.mk hC101
                                         clear hA101 hC101 hi0101 hsz101
                                         obtain ⟨i0102, hi0102, _, hsz102, _⟩ := info_parts info5
                                         obtain ⟨A102, hcut102, hA102, hC102⟩ := print_drop_of (P := Try.prog) (Value.int .u8) 0 22 5 .i64 Try.underlying22 hi0102 hsz102 (some ad181) c0 l0 16 (by omega) (of_decide_eq_true (by first | (with_reducible assumption) | assumption)) HC0.out
                                         have HR200 := Aside0.mk (Kd.C_of_reads (h1 := fun _ => rfl) (hA102 _ (Kd.reads_of_C HR0.out)))
                                         have HC200 := Aside0.mk hC102
                                         clear hA102 hC102 hi0102 hsz102
                                         refine start_ (n := 8) (S := fun w' => True) (ds := []) #[false, false, false, false, false, false, false, false] (by kernel_rfl) rfl rfl trivial (fun hHeld => ?_); refine with_tabW keepsakeref21_Parse.tab16 keepsakeref21_Parse.bits16 (fun HT_ HW_ => ?_)
                                         generalize w99.drew = w100 at BK176 BK184 HB HR196 HR200 hHeld ⊢
                                         refine pure_ (i := 1) (N := some 94) (v := ?_) (a' := ?_) #[false, true, false, false, false, false, false, false] rfl rfl (any_of HT_.out (by kernel_rfl)) (fun _ _ _ h => h) (Or.inl ⟨by rfl, ?_⟩) ?_ ?_
                                         rotate_left
                                         · intro w'
                                           go_simp
                                           with_reducible rfl
                                         rotate_left
                                         · simp only [Act.put, List.setIfInBounds_toArray, List.set_cons_zero, List.set_cons_succ, i64_w, i32_w]
                                           rfl
                                         refine pure_ (i := 2) (N := some 95) (v := ?_) (a' := ?_) #[false, true, true, false, false, false, false, false] rfl rfl (any_of HT_.out (by kernel_rfl)) (fun _ _ _ h => h) (Or.inl ⟨by rfl, ?_⟩) ?_ ?_
                                         rotate_left
                                         · intro w'
                                           go_simp
                                           with_reducible rfl
                                         rotate_left
                                         · simp only [Act.put, List.setIfInBounds_toArray, List.set_cons_zero, List.set_cons_succ, i64_w, i32_w]
                                           rfl
                                         refine pure_ (i := 4) (N := some 97) (v := ?_) (a' := ?_) #[false, true, true, false, true, false, false, false] rfl rfl (any_of HT_.out (by kernel_rfl)) (fun _ _ _ h => h) (Or.inl ⟨by rfl, ?_⟩) ?_ ?_
                                         rotate_left
                                         · intro w'
                                           go_simp
                                           with_reducible rfl
                                         rotate_left
                                         · simp only [Act.put, List.setIfInBounds_toArray, List.set_cons_zero, List.set_cons_succ, i64_w, i32_w]
                                           rfl
                                         refine pure_ (i := 5) (N := some 98) (v := ?_) (a' := ?_) #[false, true, true, false, true, true, false, false] rfl rfl (any_of HT_.out (by kernel_rfl)) (fun _ _ _ h => h) (Or.inl ⟨by rfl, ?_⟩) ?_ ?_
                                         rotate_left
                                         · intro w'
                                           go_simp
                                           with_reducible rfl
                                         rotate_left
                                         · simp only [Act.put, List.setIfInBounds_toArray, List.set_cons_zero, List.set_cons_succ, i64_w, i32_w]
                                           rfl
                                         refine one_ (i := 0) (N := some 93) #[true, true, true, false, true, true, false, false] rfl rfl (one_of HT_.out (by kernel_rfl)) (by decide) (fun K hK => ?_)
                                         refine Kd.R_lit_step (Kd.int .u8) _ 5 ?hg (N := 93) ?hd (xs := ([] : List Int)) (inner := []) (ok := fun _ => True) (okp := fun _ => True) ?hr ?hp (fun _ hk => hk) trivial (Below.refl _ _) (Nat.le_refl _) (by simp) ?_; (case hd => rfl); (case hg => rfl); (case hr => first | (go_simp; done) | (go_simp; rfl)); (case hp => exact (Reps.none _ _))
                                         intro v194 w103 ho104 hb hg_ hnew_
                                         clear hg_ hnew_
                                         (first | rw [← Ny193.out] at ho104 | (simp only [Int.reduceToNat] at ho104; rw [← Ny193.out] at ho104))
                                         have n0_ := Aside0.mk (Kd.R_lower ho104 (below_size (by repeat (first | (with_reducible first | exact HB.out | apply below_alloc | apply pw_below_drewN | apply below_drew1 | refine below_set ?_ GE176.out | refine below_set ?_ GE184.out) | exact HB.out))))
                                         have n1_ := Aside0.mk (blk_below (g := gb176) (o := .cells #[.int .i64 0, .int .i64 0, .int .i64 0, .int .i64 0, .int .i64 0, .slice none 0 0] 27 (0, 0)) (by (with_reducible repeat (first | refine blk_drewN ?_ _ | refine blk_drew ?_ | refine blk_alloc ?_ _)); exact BK176.out) hb)
                                         have n2_ := Aside0.mk (blk_below (g := gb184) (o := .cells #[.int .i64 (wrap64 (rd l0 5)), .int .i64 (wrap64 (rd l0 6)), .int .i64 (wrap64 (rd l0 7)), .int .i64 (wrap64 (rd l0 8)), .int .i64 (wrap64 (rd l0 9)), .slice none 0 0] 27 (0, 0)) (by (with_reducible repeat (first | refine blk_drewN ?_ _ | refine blk_drew ?_ | refine blk_alloc ?_ _)); exact BK184.out) hb)
                                         have n3_ := Aside0.mk (below_step (by repeat (first | (with_reducible first | exact HB.out | apply below_alloc | apply pw_below_drewN | apply below_drew1 | refine below_set ?_ GE176.out | refine below_set ?_ GE184.out) | exact HB.out)) hb)
                                         clear BK176
                                         clear BK184
                                         clear HB
                                         have HO195 := n0_
                                         have BK176 := n1_
                                         have BK184 := n2_
                                         have HB := n3_
                                         clear n0_ n1_ n2_ n3_
                                         clear hb ho104
                                         refine hK.out _ _ trivial (fun hHeld => ?_)
                                         clear hK K
                                         refine norm_ (a' := ?_) ?_ ?_
                                         rotate_left
                                         · show Act.put _ (some 93) _ = _
                                           simp only [Act.put, List.setIfInBounds_toArray, List.set_cons_zero, List.set_cons_succ, i64_w, i32_w]
                                           rfl
                                         refine one_ (i := 3) (N := some 96) #[true, true, true, true, true, true, false, false] rfl rfl (one_of HT_.out (by kernel_rfl)) (by decide) (fun K hK => ?_)
                                         refine Kd.R_append_rows_step (Kd.int .u8) (w0 := w) w.heap.size (by rfl) (.tmp 93) (.tmp 95) 22 5 (.int .u8 0) 1 rfl Try.underlying22 info5 rfl (by decide) (by omega) v194 y193 (l0.take 12) _ _ _ (fun _ => True) (fun _ => False) rfl rfl ?aO ?aR (fun _ _ h => h) (fun _ h => h.elim) ?aF ?aB ?aS ?aL ?_
                                         (case aR => first | (rw [← List.length_take]; (repeat (first | exact (Kd.C_below HR196.out HB.out) | (with_reducible refine Kd.C_alloc ?_ _) | (with_reducible refine Kd.C_drewN ?_ _) | (with_reducible refine Kd.C_drew ?_))); done) | (rw [← show (l0.take 12).length = 12 from (by rw [List.length_take]; have h_ : (12 : Int) ≤ (l0.length : Int) := of_decide_eq_true (by first | (with_reducible assumption) | assumption); omega)]; repeat (first | exact (Kd.C_below HR196.out HB.out) | (with_reducible refine Kd.C_alloc ?_ _) | (with_reducible refine Kd.C_drewN ?_ _) | (with_reducible refine Kd.C_drew ?_))) | (repeat (first | exact (Kd.C_below HR196.out HB.out) | (with_reducible refine Kd.C_alloc ?_ _) | (with_reducible refine Kd.C_drewN ?_ _) | (with_reducible refine Kd.C_drew ?_))))
                                         (case aB => exact (by repeat (first | (with_reducible first | exact HB.out | apply below_alloc | apply pw_below_drewN | apply below_drew1 | refine below_set ?_ GE176.out | refine below_set ?_ GE184.out) | exact HB.out)))
                                         (case aF => exact (fun _ _ => trivial))
                                         (case aO => exact (by (with_reducible repeat (first | apply Kd.R_alloc | apply Kd.R_drewN | apply Kd.R_drew)); exact HO195.out))
                                         (case aS => exact (below_size (by repeat (first | (with_reducible first | exact HB.out | apply below_alloc | apply pw_below_drewN | apply below_drew1 | refine below_set ?_ GE176.out | refine below_set ?_ GE184.out) | exact HB.out))))
                                         (case aL => have := LMc63.out; have hlx_ := (show (l0.take 12).length = 12 from (by rw [List.length_take]; have h_ : (12 : Int) ≤ (l0.length : Int) := of_decide_eq_true (by first | (with_reducible assumption) | assumption); omega)); omega)
                                         intro v198 w105 ho hb hg hat
                                         rw [← Ny197.out] at ho
                                         have n0_ := Aside0.mk (blk_grown (g := gb176) (o := .cells #[.int .i64 0, .int .i64 0, .int .i64 0, .int .i64 0, .int .i64 0, .slice none 0 0] 27 (0, 0)) (by (with_reducible repeat (first | refine blk_drewN ?_ _ | refine blk_drew ?_ | refine blk_alloc ?_ _)); exact BK176.out) hg (Kd.R_ne HO195.out BK176.out (by decide)))
                                         have n1_ := Aside0.mk (blk_grown (g := gb184) (o := .cells #[.int .i64 (wrap64 (rd l0 5)), .int .i64 (wrap64 (rd l0 6)), .int .i64 (wrap64 (rd l0 7)), .int .i64 (wrap64 (rd l0 8)), .int .i64 (wrap64 (rd l0 9)), .slice none 0 0] 27 (0, 0)) (by (with_reducible repeat (first | refine blk_drewN ?_ _ | refine blk_drew ?_ | refine blk_alloc ?_ _)); exact BK184.out) hg (Kd.R_ne HO195.out BK184.out (by decide)))
                                         have n2_ := Aside0.mk (hb)
                                         have n3_ := Aside0.mk (ho)
                                         clear BK176
                                         clear BK184
                                         clear HB
                                         clear HO195
                                         have BK176 := n0_
                                         have BK184 := n1_
                                         have HB := n2_
                                         have HO199 := n3_
                                         clear n0_ n1_ n2_ n3_
                                         clear ho hb hg hat
                                         refine hK.out _ _ trivial (fun hHeld => ?_)
                                         clear hK K
                                         refine norm_ (a' := ?_) ?_ ?_
                                         rotate_left
                                         · show Act.put _ (some 96) _ = _
                                           simp only [Act.put, List.setIfInBounds_toArray, List.set_cons_zero, List.set_cons_succ, i64_w, i32_w]
                                           rfl
                                         refine one_ (i := 6) (N := some 99) #[true, true, true, true, true, true, true, false] rfl rfl (one_of HT_.out (by kernel_rfl)) (by decide) (fun K hK => ?_)
                                         refine Kd.R_append_rows_step (Kd.int .u8) (w0 := w) w.heap.size (by rfl) (.tmp 96) (.tmp 98) 22 5 (.int .u8 0) 1 rfl Try.underlying22 info5 rfl (by decide) (by omega) v198 y197 (l0.drop 16) _ _ _ (fun _ => True) (fun _ => False) rfl rfl ?aO ?aR (fun _ _ h => h) (fun _ h => h.elim) ?aF ?aB ?aS ?aL ?_
                                         (case aR => first | (rw [← List.length_take]; (repeat (first | exact (Kd.C_below HR200.out HB.out) | (with_reducible refine Kd.C_alloc ?_ _) | (with_reducible refine Kd.C_drewN ?_ _) | (with_reducible refine Kd.C_drew ?_))); done) | (rw [← show (l0.drop 16).length = (l0.length - 16) from List.length_drop]; repeat (first | exact (Kd.C_below HR200.out HB.out) | (with_reducible refine Kd.C_alloc ?_ _) | (with_reducible refine Kd.C_drewN ?_ _) | (with_reducible refine Kd.C_drew ?_))) | (repeat (first | exact (Kd.C_below HR200.out HB.out) | (with_reducible refine Kd.C_alloc ?_ _) | (with_reducible refine Kd.C_drewN ?_ _) | (with_reducible refine Kd.C_drew ?_))))
                                         (case aB => exact (by repeat (first | (with_reducible first | exact HB.out | apply below_alloc | apply pw_below_drewN | apply below_drew1 | refine below_set ?_ GE176.out | refine below_set ?_ GE184.out) | exact HB.out)))
                                         (case aF => exact (fun _ _ => trivial))
                                         (case aO => exact (by (with_reducible repeat (first | apply Kd.R_alloc | apply Kd.R_drewN | apply Kd.R_drew)); exact HO199.out))
                                         (case aS => exact (below_size (by repeat (first | (with_reducible first | exact HB.out | apply below_alloc | apply pw_below_drewN | apply below_drew1 | refine below_set ?_ GE176.out | refine below_set ?_ GE184.out) | exact HB.out))))
                                         (case aL => have := LMc65.out; have hlx_ := (show (l0.drop 16).length = (l0.length - 16) from List.length_drop); omega)
                                         intro v202 w106 ho hb hg hat
                                         rw [← Ny201.out] at ho
                                         have n0_ := Aside0.mk (blk_grown (g := gb176) (o := .cells #[.int .i64 0, .int .i64 0, .int .i64 0, .int .i64 0, .int .i64 0, .slice none 0 0] 27 (0, 0)) (by (with_reducible repeat (first | refine blk_drewN ?_ _ | refine blk_drew ?_ | refine blk_alloc ?_ _)); exact BK176.out) hg (Kd.R_ne HO199.out BK176.out (by decide)))
                                         have n1_ := Aside0.mk (blk_grown (g := gb184) (o := .cells #[.int .i64 (wrap64 (rd l0 5)), .int .i64 (wrap64 (rd l0 6)), .int .i64 (wrap64 (rd l0 7)), .int .i64 (wrap64 (rd l0 8)), .int .i64 (wrap64 (rd l0 9)), .slice none 0 0] 27 (0, 0)) (by (with_reducible repeat (first | refine blk_drewN ?_ _ | refine blk_drew ?_ | refine blk_alloc ?_ _)); exact BK184.out) hg (Kd.R_ne HO199.out BK184.out (by decide)))
                                         have n2_ := Aside0.mk (hb)
                                         have n3_ := Aside0.mk (ho)
                                         clear BK176
                                         clear BK184
                                         clear HB
                                         clear HO199
                                         have BK176 := n0_
                                         have BK184 := n1_
                                         have HB := n2_
                                         have HO203 := n3_
                                         clear n0_ n1_ n2_ n3_
                                         clear ho hb hg hat
                                         refine hK.out _ _ trivial (fun hHeld => ?_)
                                         clear hK K
                                         refine norm_ (a' := ?_) ?_ ?_
                                         rotate_left
                                         · show Act.put _ (some 99) _ = _
                                           simp only [Act.put, List.setIfInBounds_toArray, List.set_cons_zero, List.set_cons_succ, i64_w, i32_w]
                                           rfl
                                         refine pure_ (i := 7) (N := some 6) (v := ?_) (a' := ?_) #[true, true, true, true, true, true, true, true] rfl rfl (any_of HT_.out (by kernel_rfl)) (fun _ _ _ h => h) (Or.inl ⟨by rfl, ?_⟩) ?_ ?_
                                         rotate_left
                                         · intro w'
                                           go_simp
                                           with_reducible rfl
                                         rotate_left
                                         · simp only [Act.put, List.setIfInBounds_toArray, List.set_cons_zero, List.set_cons_succ, i64_w, i32_w]
                                           rfl
                                         refine done_ (done_of HT_.out (by kernel_rfl)) ?_
                                         obtain ⟨i0107, hi0107, _, hsz107, _⟩ := info_parts info5
                                         obtain ⟨A107, hcut107, hA107, hC107⟩ := print_mid_of (P := Try.prog) (Value.int .u8) 0 22 5 .i64 .i64 Try.underlying22 hi0107 hsz107 (some ad181) c0 l0 12 16 (by omega) (by first | omega | exact of_decide_eq_true (by first | (with_reducible assumption) | assumption)) (of_decide_eq_true (by first | (with_reducible assumption) | assumption)) HC0.out
                                         have HR204 := Aside0.mk (Kd.C_of_reads (h1 := fun _ => rfl) (hA107 _ (Kd.reads_of_C HR0.out)))
                                         have HC204 := Aside0.mk hC107
                                         clear hA107 hC107 hi0107 hsz107
                                         try go_wp2_with (first | ((with_reducible refine gate_callee (f := 25) rfl ?_); refine goesL_ (some 102) rfl rfl Try.func25 (by kernel_rfl) rfl #[.slice A107 ((l0.take 16).drop 12).length (c0 - 12)] rfl (by (try simp only [List.map_toArray, List.map_cons, List.map_nil]); first | done | (rw [show ((l0.take 16).drop 12).length = (16 - 12) from (by rw [List.length_drop, List.length_take]; have h_ : (16 : Int) ≤ (l0.length : Int) := of_decide_eq_true (by first | (with_reducible assumption) | assumption); omega)] <;> rfl) | rfl | (simp only [List.length_drop, List.length_take]; rfl)) ?_; (with_reducible refine (keepsakeref04_Number.calls kj23 _ _ ((l0.take 16).drop 12) t205 _ ?side1 ?side2 A68.out).mono ?_); (case side1 => repeat (first | exact (Kd.C_below HR204.out HB.out) | (with_reducible refine Kd.C_alloc ?_ _) | (with_reducible refine Kd.C_drewN ?_ _) | (with_reducible refine Kd.C_drew ?_))); (case side2 => exact HC204.out); rintro e w' ⟨rfl, ⟨nd, rfl⟩⟩; refine ⟨_, rfl, ?_⟩; (try (rw [drewN_self w106]; generalize hq_ : World.drewN w106 _ = w106; have n0_ : Aside0 (Kd.R (Kd.int .u8) 5 w106 w.heap.size (fun _ => True) v202 y201) := ⟨by rw [← hq_]; exact (by (with_reducible repeat (first | apply Kd.R_alloc | apply Kd.R_drewN | apply Kd.R_drew)); exact HO203.out)⟩; have n1_ : Aside0 (w106.heap[gb176]? = some (.cells #[.int .i64 0, .int .i64 0, .int .i64 0, .int .i64 0, .int .i64 0, .slice none 0 0] 27 (0, 0))) := ⟨by rw [← hq_]; exact (by (with_reducible repeat (first | refine blk_drewN ?_ _ | refine blk_drew ?_ | refine blk_alloc ?_ _)); exact BK176.out)⟩; have n2_ : Aside0 (w106.heap[gb184]? = some (.cells #[.int .i64 (wrap64 (rd l0 5)), .int .i64 (wrap64 (rd l0 6)), .int .i64 (wrap64 (rd l0 7)), .int .i64 (wrap64 (rd l0 8)), .int .i64 (wrap64 (rd l0 9)), .slice none 0 0] 27 (0, 0))) := ⟨by rw [← hq_]; exact (by (with_reducible repeat (first | refine blk_drewN ?_ _ | refine blk_drew ?_ | refine blk_alloc ?_ _)); exact BK184.out)⟩; have n3_ : Aside0 (Below w.heap.size w w106) := ⟨by rw [← hq_]; exact (by repeat (first | (with_reducible first | exact HB.out | apply below_alloc | apply pw_below_drewN | apply below_drew1 | refine below_set ?_ GE176.out | refine below_set ?_ GE184.out) | exact HB.out))⟩; clear HO203 BK176 BK184 HB hq_; have HO203 := n0_; have BK176 := n1_; have BK184 := n2_; have HB := n3_; clear n0_ n1_ n2_ n3_)); obtain ⟨Ao108, co108, eo108⟩ := Kd.R_slice HO203.out; subst eo108) | ((with_reducible refine gate_callee (f := 26) rfl ?_); refine goesL_ (some 104) rfl rfl Try.func26 (by kernel_rfl) rfl #[.slice Ao108 y201.length co108] rfl (by (try simp only [List.map_toArray, List.map_cons, List.map_nil]); first | done | rfl | (simp only [List.length_drop, List.length_take]; rfl)) ?_; (with_reducible refine (keepsakeref01_Sum.calls kj23 _ _ y201 t206 _ ?side1 ?side2 A69.out).mono ?_); (case side1 => repeat (first | exact (Kd.R_reads' HO203.out).2.2 | (with_reducible refine Kd.C_alloc ?_ _) | (with_reducible refine Kd.C_drewN ?_ _) | (with_reducible refine Kd.C_drew ?_))); (case side2 => exact (Kd.R_reads' HO203.out).2.1); rintro e w109 ⟨rfl, hb⟩; refine ⟨_, rfl, ?_⟩; have n0_ := Aside0.mk (Kd.R_below (by (with_reducible repeat (first | apply Kd.R_alloc | apply Kd.R_drewN | apply Kd.R_drew)); exact HO203.out) hb); have n1_ := Aside0.mk (blk_below (g := gb176) (o := .cells #[.int .i64 0, .int .i64 0, .int .i64 0, .int .i64 0, .int .i64 0, .slice none 0 0] 27 (0, 0)) (by (with_reducible repeat (first | refine blk_drewN ?_ _ | refine blk_drew ?_ | refine blk_alloc ?_ _)); exact BK176.out) hb); have n2_ := Aside0.mk (blk_below (g := gb184) (o := .cells #[.int .i64 (wrap64 (rd l0 5)), .int .i64 (wrap64 (rd l0 6)), .int .i64 (wrap64 (rd l0 7)), .int .i64 (wrap64 (rd l0 8)), .int .i64 (wrap64 (rd l0 9)), .slice none 0 0] 27 (0, 0)) (by (with_reducible repeat (first | refine blk_drewN ?_ _ | refine blk_drew ?_ | refine blk_alloc ?_ _)); exact BK184.out) hb); have n3_ := Aside0.mk (below_step (by repeat (first | (with_reducible first | exact HB.out | apply below_alloc | apply pw_below_drewN | apply below_drew1 | refine below_set ?_ GE176.out | refine below_set ?_ GE184.out) | exact HB.out)) hb); clear HO203; clear BK176; clear BK184; clear HB; have HO203 := n0_; have BK176 := n1_; have BK184 := n2_; have HB := n3_; clear n0_ n1_ n2_ n3_; (try clear hb); (try clear hb2); (try clear hk); (try clear hi); have hcz110_0 : w109.cell? ⟨gb176, 0, none⟩ = some (.int .i64 0) := (blk_cell BK176.out 0).trans rfl; have hcz110_1 : w109.cell? ⟨gb176, 1, none⟩ = some (.int .i64 0) := (blk_cell BK176.out 1).trans rfl; have hcz110_2 : w109.cell? ⟨gb176, 2, none⟩ = some (.int .i64 0) := (blk_cell BK176.out 2).trans rfl; have hcz110_3 : w109.cell? ⟨gb176, 3, none⟩ = some (.int .i64 0) := (blk_cell BK176.out 3).trans rfl; have hcz110_4 : w109.cell? ⟨gb176, 4, none⟩ = some (.int .i64 0) := (blk_cell BK176.out 4).trans rfl; have hcz110_5 : w109.cell? ⟨gb176, 5, none⟩ = some (.slice none 0 0) := (blk_cell BK176.out 5).trans rfl; have hfz110_0 := blk_frozen BK176.out 0; have hfz110_1 := blk_frozen BK176.out 1; have hfz110_2 := blk_frozen BK176.out 2; have hfz110_3 := blk_frozen BK176.out 3; have hfz110_4 := blk_frozen BK176.out 4; have hfz110_5 := blk_frozen BK176.out 5))
                                         refine bodyPost_ret (results_ct rfl _ _ gb176 27 #[.int .i64 0, .int .i64 0, .int .i64 0, .int .i64 0, .int .i64 0, .slice none 0 0] (0, 0) _ rfl (by (with_reducible repeat (first | refine blk_drewN ?_ _ | refine blk_drew ?_ | refine blk_alloc ?_ _)); refine blk_put (cs := #[.int .i64 0, .int .i64 0, .int .i64 0, .int .i64 0, .int .i64 0, .slice none 0 0]) ?_ 5 _ rfl; (with_reducible repeat (first | refine blk_drewN ?_ _ | refine blk_drew ?_ | refine blk_alloc ?_ _)); refine blk_put (cs := #[.int .i64 0, .int .i64 0, .int .i64 0, .int .i64 0, .int .i64 0, .slice none 0 0]) ?_ 4 _ rfl; (with_reducible repeat (first | refine blk_drewN ?_ _ | refine blk_drew ?_ | refine blk_alloc ?_ _)); refine blk_put (cs := #[.int .i64 0, .int .i64 0, .int .i64 0, .int .i64 0, .int .i64 0, .slice none 0 0]) ?_ 3 _ rfl; (with_reducible repeat (first | refine blk_drewN ?_ _ | refine blk_drew ?_ | refine blk_alloc ?_ _)); refine blk_put (cs := #[.int .i64 0, .int .i64 0, .int .i64 0, .int .i64 0, .int .i64 0, .slice none 0 0]) ?_ 2 _ rfl; (with_reducible repeat (first | refine blk_drewN ?_ _ | refine blk_drew ?_ | refine blk_alloc ?_ _)); refine blk_put (cs := #[.int .i64 0, .int .i64 0, .int .i64 0, .int .i64 0, .int .i64 0, .slice none 0 0]) ?_ 1 _ rfl; (with_reducible repeat (first | refine blk_drewN ?_ _ | refine blk_drew ?_ | refine blk_alloc ?_ _)); refine blk_put (cs := #[.int .i64 0, .int .i64 0, .int .i64 0, .int .i64 0, .int .i64 0, .slice none 0 0]) ?_ 0 _ rfl; (with_reducible repeat (first | refine blk_drewN ?_ _ | refine blk_drew ?_ | refine blk_alloc ?_ _)); exact BK176.out) Try.underlying27 rfl (by kernel_rfl)) rfl ?_
                                         exact ⟨_, by first | rfl | (simp [errW_none, errW_some] <;> rfl) | (simp [*, errW_none, errW_some] <;> rfl), by first | exact Kd.R_nil _ _ _ _ _ | exact Kd.N_nil _ _ _ _ _ | exact Kd.V_nil _ _ _ _ _ | exact Kd.Q_nil _ _ _ _ _ | exact Kd.S_nil _ _ _ _ _, by repeat (first | (with_reducible first | exact HB.out | apply below_alloc | apply pw_below_drewN | apply below_drew1 | refine below_set ?_ GE176.out | refine below_set ?_ GE184.out) | exact HB.out)⟩
                                     · rw [if_neg c66] at H
                                       exact absurd H (by simp)
                                   · rw [if_neg c65] at H
                                     exact absurd H (by simp)
                                 · rw [if_neg c64] at H
                                   exact absurd H (by simp)
                               · rw [if_neg c63] at H
                                 exact absurd H (by simp)
                             · rw [if_neg c62] at H
                               exact absurd H (by simp)
                   · rw [if_neg c22] at H
                     exact absurd H (by simp)
                 · rw [if_neg c21] at H
                   exact absurd H (by simp)
               · rw [if_neg c20] at H
                 exact absurd H (by simp)
             · rw [if_neg c19] at H
               exact absurd H (by simp)
           · rw [if_neg c18] at H
             exact absurd H (by simp)
         · rw [if_neg c17] at H
           have c17b0 : ((rd l0 4) == 1) = false := beq_eq_false_iff_ne.mpr c17
           have c17b1 : ((rd l0 4) != 1) = true := bne_iff_ne.mpr c17
           simp only [Option.some.injEq, Prod.mk.injEq] at H
           obtain ⟨rfl, rfl, rfl, rfl, rfl, rfl, rfl⟩ := H
           have p181 : 0 ≤ (4 : Int) := (by omega)
           have q181 : 4 < (l0.length : Int) := of_decide_eq_true (by first | (with_reducible assumption) | assumption)
           obtain ⟨ad181, e181, hx181_0⟩ := Kd.at_int HR0.out 4 p181 q181
           cases e181
           (try simp only [show (4 : Int).toNat = 4 from rfl, Nat.reduceMul, Nat.reduceEqDiff, Go.Addr.add, ↓reduceIte] at hx181_0)
           have qi181 : (4 < l0.length) = True := eq_true (by omega)
           (try rw [show ((4 : Int)).toNat = 4 from rfl] at hx181_0)
           replace hx181_0 := (HB.out.cell (World.block_lt_of_cell? w _ hx181_0)).trans hx181_0
           replace p181 := eq_true p181
           replace q181 := eq_true q181
           have hcz111_0 : wc.cell? ⟨gb176, 0, none⟩ = some (.int .i64 0) := (blk_cell BK176.out 0).trans rfl
           have hcz111_1 : wc.cell? ⟨gb176, 1, none⟩ = some (.int .i64 0) := (blk_cell BK176.out 1).trans rfl
           have hcz111_2 : wc.cell? ⟨gb176, 2, none⟩ = some (.int .i64 0) := (blk_cell BK176.out 2).trans rfl
           have hcz111_3 : wc.cell? ⟨gb176, 3, none⟩ = some (.int .i64 0) := (blk_cell BK176.out 3).trans rfl
           have hcz111_4 : wc.cell? ⟨gb176, 4, none⟩ = some (.int .i64 0) := (blk_cell BK176.out 4).trans rfl
           have hcz111_5 : wc.cell? ⟨gb176, 5, none⟩ = some (.slice none 0 0) := (blk_cell BK176.out 5).trans rfl
           have hfz111_0 := blk_frozen BK176.out 0
           have hfz111_1 := blk_frozen BK176.out 1
           have hfz111_2 := blk_frozen BK176.out 2
           have hfz111_3 := blk_frozen BK176.out 3
           have hfz111_4 := blk_frozen BK176.out 4
           have hfz111_5 := blk_frozen BK176.out 5
           go_wp2
           refine bodyPost_ret (results_ct rfl _ _ gb176 27 #[.int .i64 0, .int .i64 0, .int .i64 0, .int .i64 0, .int .i64 0, .slice none 0 0] (0, 0) _ rfl (by (with_reducible repeat (first | refine blk_drewN ?_ _ | refine blk_drew ?_ | refine blk_alloc ?_ _)); refine blk_put (cs := #[.int .i64 0, .int .i64 0, .int .i64 0, .int .i64 0, .int .i64 0, .slice none 0 0]) ?_ 5 _ rfl; (with_reducible repeat (first | refine blk_drewN ?_ _ | refine blk_drew ?_ | refine blk_alloc ?_ _)); refine blk_put (cs := #[.int .i64 0, .int .i64 0, .int .i64 0, .int .i64 0, .int .i64 0, .slice none 0 0]) ?_ 4 _ rfl; (with_reducible repeat (first | refine blk_drewN ?_ _ | refine blk_drew ?_ | refine blk_alloc ?_ _)); refine blk_put (cs := #[.int .i64 0, .int .i64 0, .int .i64 0, .int .i64 0, .int .i64 0, .slice none 0 0]) ?_ 3 _ rfl; (with_reducible repeat (first | refine blk_drewN ?_ _ | refine blk_drew ?_ | refine blk_alloc ?_ _)); refine blk_put (cs := #[.int .i64 0, .int .i64 0, .int .i64 0, .int .i64 0, .int .i64 0, .slice none 0 0]) ?_ 2 _ rfl; (with_reducible repeat (first | refine blk_drewN ?_ _ | refine blk_drew ?_ | refine blk_alloc ?_ _)); refine blk_put (cs := #[.int .i64 0, .int .i64 0, .int .i64 0, .int .i64 0, .int .i64 0, .slice none 0 0]) ?_ 1 _ rfl; (with_reducible repeat (first | refine blk_drewN ?_ _ | refine blk_drew ?_ | refine blk_alloc ?_ _)); refine blk_put (cs := #[.int .i64 0, .int .i64 0, .int .i64 0, .int .i64 0, .int .i64 0, .slice none 0 0]) ?_ 0 _ rfl; (with_reducible repeat (first | refine blk_drewN ?_ _ | refine blk_drew ?_ | refine blk_alloc ?_ _)); exact BK176.out) Try.underlying27 rfl (by kernel_rfl)) rfl ?_
           exact ⟨_, by first | rfl | (simp [errW_none, errW_some] <;> rfl) | (simp [*, errW_none, errW_some] <;> rfl), by first | exact Kd.R_nil _ _ _ _ _ | exact Kd.N_nil _ _ _ _ _ | exact Kd.V_nil _ _ _ _ _ | exact Kd.Q_nil _ _ _ _ _ | exact Kd.S_nil _ _ _ _ _, by repeat (first | (with_reducible first | exact HB.out | apply below_alloc | apply pw_below_drewN | apply below_drew1 | refine below_set ?_ GE176.out) | exact HB.out)⟩
       · rw [if_neg c16] at H
         exact absurd H (by simp)

end Go.Proofs.Ytoiiphlhdnlniaa.All
-- slimmed
