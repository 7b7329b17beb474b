-- written by a program of mine (xprint_patch.py over the kit's print)
import Derived.Test.YtlinaijndlcfjaaDoorAx0
import Derived.Test.YtlinaijndlcfjaaDoorAx6
import Derived.Test.YtlinaijndlcfjaaDoorAx8
import Derived.Test.YtlinaijndlcfjaaDoorAx10
namespace Go.Proofs.YtlinaijndlcfjaaDoor.Given
end Go.Proofs.YtlinaijndlcfjaaDoor.Given
namespace Go.Proofs.YtlinaijndlcfjaaDoor.All
open Go.Proofs.YtlinaijndlcfjaaDoor.Given
open Go.RowKit Go.Proofs.YtlinaijndlcfjaaDoorW.PrintWords Go.Proofs.YtlinaijndlcfjaaDoorW.PrintLast Go.Proofs.YtlinaijndlcfjaaDoorW.PrintMore
attribute [local go_sem] max2_int min2_int max_two min_two max_three min_three max_four min_four   -- for this text's walks alone
set_option linter.unusedVariables false
set_option linter.unusedSimpArgs false

/-! ### keepsakeref04_Decode: function 14 -/
def keepsakeref04_Decode.j0 : Nat → List Int → Bool → Option (Int × Int × Int × Int × Int × Int × Int)
 | 0, _, _ => none
 | k + 1, x0, x31 => if x31 = true then (some (0, 0, 0, 0, 0, 0, 6)) else (if 4 < (x0.length : Int) then (if (rd x0 4) = 1 then (if 24 ≤ 28 then (if 28 ≤ (x0.length : Int) then ((keepsakeref04_Number.f k ((x0.take 28).drop 24)).bind fun t285 => (if 24 ≤ (x0.length : Int) then ((keepsakeref01_Sum.f k (x0.take 24)).bind fun t287 => (if t285 = (IntKind.u64.wrap (t287)) then (if 5 < (x0.length : Int) then (if 6 < (x0.length : Int) then (if 7 < (x0.length : Int) then (if 8 ≤ 12 then (if 12 ≤ (x0.length : Int) then ((keepsakeref04_Number.f k ((x0.take 12).drop 8)).bind fun t293 => (if 12 ≤ 20 then (if 20 ≤ (x0.length : Int) then ((keepsakeref04_Number.f k ((x0.take 20).drop 12)).bind fun t295 => (if 20 ≤ 24 then ((keepsakeref04_Number.f k ((x0.take 24).drop 20)).bind fun t297 => ((keepsakeref04_can.f (wrap64 (rd x0 5)) (wrap64 (rd x0 6)) (wrap64 (rd x0 7)) (wrap64 (t293)) t295 ((t297) % 4294967296)).bind fun t298 => (if t298 = true then (some (wrap64 (rd x0 5), wrap64 (rd x0 6), wrap64 (rd x0 7), wrap64 (t293), t295, (t297) % 4294967296, 0)) else (some (0, 0, 0, 0, 0, 0, 9))))) else (none))) else (none)) else (none))) else (none)) else (none)) else (none)) else (none)) else (none)) else (some (0, 0, 0, 0, 0, 0, 8)))) else (none))) else (none)) else (none)) else (some (0, 0, 0, 0, 0, 0, 7))) else (none))
def keepsakeref04_Decode.f (k : Nat) (l0 : List Int) : Option (Int × Int × Int × Int × Int × Int × Int) := if (l0.length : Int) < 28 then (some (0, 0, 0, 0, 0, 0, 5)) else (if 0 < (l0.length : Int) then (if (rd l0 0) = 75 then (if 1 < (l0.length : Int) then (if (rd l0 1) = 69 then (if 2 < (l0.length : Int) then (if (rd l0 2) = 69 then (if 3 < (l0.length : Int) then (keepsakeref04_Decode.j0 k l0 ((rd l0 3) != 80)) else (none)) else (keepsakeref04_Decode.j0 k l0 true)) else (none)) else (keepsakeref04_Decode.j0 k l0 true)) else (none)) else (keepsakeref04_Decode.j0 k l0 true)) else (none))
theorem keepsakeref04_Decode.mono_l : ∀ k, (∀ y0 y1, LeO (keepsakeref04_Decode.j0 k y0 y1) (keepsakeref04_Decode.j0 (k + 1) y0 y1))
 | 0 => fun _ _ r h => by simp [keepsakeref04_Decode.j0] at h
 | k + 1 => by
  have ih0 := keepsakeref04_Decode.mono_l k
  · intro y0 y1
    unfold keepsakeref04_Decode.j0
    repeat' first
    | (with_reducible exact ih0 _ _)
    | (with_reducible exact keepsakeref01_Sum.mono _ _)
    | (with_reducible exact keepsakeref04_Number.mono _ _)
    | (with_reducible exact LeO.refl _)
    | (with_reducible exact LeO.none _)
    | (with_reducible refine LeO.ite ?_ ?_)
    | (with_reducible refine LeO.bind ?_ (fun _ => ?_))
    | exact ih0 _ _
    | exact keepsakeref01_Sum.mono _ _
    | exact keepsakeref04_Number.mono _ _
    | exact LeO.none _
    | refine LeO.ite ?_ ?_
    | refine LeO.bind ?_ (fun _ => ?_)
theorem keepsakeref04_Decode.mono : ∀ a0 k, LeO (keepsakeref04_Decode.f k a0) (keepsakeref04_Decode.f (k + 1) a0) := by
 intro a0 k
 have ih0 := keepsakeref04_Decode.mono_l k
 unfold keepsakeref04_Decode.f
 repeat' first
  | (with_reducible exact ih0 _ _)
  | (with_reducible exact keepsakeref01_Sum.mono _ _)
  | (with_reducible exact keepsakeref04_Number.mono _ _)
  | (with_reducible exact LeO.refl _)
  | (with_reducible exact LeO.none _)
  | (with_reducible refine LeO.ite ?_ ?_)
  | (with_reducible refine LeO.bind ?_ (fun _ => ?_))
  | exact ih0 _ _
  | exact keepsakeref01_Sum.mono _ _
  | exact keepsakeref04_Number.mono _ _
  | exact LeO.none _
  | refine LeO.ite ?_ ?_
  | refine LeO.bind ?_ (fun _ => ?_)
def keepsakeref04_Decode.T7 : Bool × List (List Nat × List Nat) := (true, [([], []), ([0], [0]), ([1], [1]), ([], []), ([3], [3]), ([4, 2], [4]), ([5], [5]), ([2, 6], [2, 6])])
def keepsakeref04_Decode.B7 : List Nat := [0, 1, 3, 0, 8, 31, 63, 127]
theorem keepsakeref04_Decode.tab7 : rtab .any (opsOf Tryd.f14 7) = keepsakeref04_Decode.T7 := by kernel_rfl
theorem keepsakeref04_Decode.bits7 : waitsOk keepsakeref04_Decode.T7.2 keepsakeref04_Decode.B7 = true := by kernel_rfl
def keepsakeref04_Decode.T10 : Bool × List (List Nat × List Nat) := (true, [([], []), ([0], [0]), ([1], [1]), ([2], [2]), ([], []), ([4], [4]), ([5], [5]), ([6], [6]), ([], []), ([8], [8]), ([9], [9]), ([10], [10]), ([3, 7, 11], [3, 7, 11]), ([0, 1, 2, 3, 4, 5, 6, 7, 8, 9, 10, 11, 12], []), ([13, 12, 0, 1, 2, 3, 4, 5, 6, 7, 8, 9, 10, 11, 12], [12, 13])])
def keepsakeref04_Decode.B10 : List Nat := [0, 1, 3, 7, 0, 16, 48, 112, 0, 256, 768, 1792, 4095, 8191, 16383]
theorem keepsakeref04_Decode.tab10 : rtab .any (opsOf Tryd.f14 10) = keepsakeref04_Decode.T10 := by kernel_rfl
theorem keepsakeref04_Decode.bits10 : waitsOk keepsakeref04_Decode.T10.2 keepsakeref04_Decode.B10 = true := by kernel_rfl
set_option maxHeartbeats 8000000 in
set_option maxRecDepth 100000 in
theorem keepsakeref04_Decode.calls (k : Nat) (A0 : Option Addr) (c0 : Nat) (l0 : List Int) (r1 : Int) (r2 : Int) (r3 : Int) (r4 : Int) (r5 : Int) (r6 : Int) (r7 : Int) (w : World) (hr0 : Kd.C (Kd.int .u8) w A0 l0.length l0) (hc0 : l0.length ≤ c0) (h : keepsakeref04_Decode.f k l0 = some (r1, r2, r3, r4, r5, r6, r7)) :
 Calls Tryd.prog 14 #[.slice A0 l0.length c0] w fun e w' => e = .returned (.tuple #[.agg #[.int .i64 r1, .int .i64 r2, .int .i64 r3, .int .i64 r4, .int .u64 r5, .int .u32 r6], .int .i64 r7]) ∧ Below w.heap.size w w' := by
 have hu27 := Tryd.underlying27
 have hu23 := Tryd.underlying23
 have HR0 := Aside0.mk hr0
 have HC0 := Aside0.mk hc0
 clear hr0 hc0
 have HB := Aside0.mk (Below.refl w.heap.size w)
 have H : (if (l0.length : Int) < 28 then (some (0, 0, 0, 0, 0, 0, 5)) else (if 0 < (l0.length : Int) then (if (rd l0 0) = 75 then (if 1 < (l0.length : Int) then (if (rd l0 1) = 69 then (if 2 < (l0.length : Int) then (if (rd l0 2) = 69 then (if 3 < (l0.length : Int) then (keepsakeref04_Decode.j0 k l0 ((rd l0 3) != 80)) else (none)) else (keepsakeref04_Decode.j0 k l0 true)) else (none)) else (keepsakeref04_Decode.j0 k l0 true)) else (none)) else (keepsakeref04_Decode.j0 k l0 true)) else (none))) = some (r1, r2, r3, r4, r5, r6, r7) := h
 clear h
 by_cases c2 : (l0.length : Int) < 28
 · rw [if_pos c2] at H
   have c2b0 : decide ((l0.length : Int) < 28) = true := decide_eq_true c2
   have c2b1 : decide (l0.length < 28) = true := decide_eq_true (by omega)
   clear c2
   simp only [Option.some.injEq, Prod.mk.injEq] at H
   obtain ⟨rfl, rfl, rfl, rfl, rfl, rfl, rfl⟩ := H
   go_enter Tryd.func14, Tryd.ntmps14
   go_wp2_with (first | ((with_reducible refine gate_dst (N := 2) rfl ?_); refine box_event ?hg (N := 2) ?hd (cs := #[.int .i64 0, .int .i64 0, .int .i64 0, .int .i64 0, .int .u64 0, .int .u32 0]) (t := 27) ?hr ?_; (case hd => rfl); (case hg => rfl); (case hr => first | (go_simp; done) | (go_simp; rfl)); intro gb278 hg w3 hbox hb; have n0_ := Aside0.mk (below_step (by repeat (first | (with_reducible first | exact HB.out | apply below_alloc | apply pw_below_drewN | apply below_drew1) | exact HB.out)) hb); have n1_ := Aside0.mk (hbox); have n2_ := Aside0.mk ((by rw [hg]; exact (below_size (by repeat (first | (with_reducible first | exact HB.out | apply below_alloc | apply pw_below_drewN | apply below_drew1) | exact HB.out))) : w.heap.size ≤ gb278)); have n3_ := Aside0.mk ((by rw [hg]; exact (below_size (by repeat (first | (with_reducible first | exact HB.out | apply below_alloc | apply pw_below_drewN | apply below_drew1) | exact HB.out))) : w.heap.size ≤ gb278)); clear HB; have HB := n0_; have BK278 := n1_; have GW278 := n2_; have GE278 := n3_; clear n0_ n1_ n2_ n3_; clear hb hbox hg; have hcz4_0 : w3.cell? ⟨gb278, 0, none⟩ = some (.int .i64 0) := (blk_cell BK278.out 0).trans rfl; have hcz4_1 : w3.cell? ⟨gb278, 1, none⟩ = some (.int .i64 0) := (blk_cell BK278.out 1).trans rfl; have hcz4_2 : w3.cell? ⟨gb278, 2, none⟩ = some (.int .i64 0) := (blk_cell BK278.out 2).trans rfl; have hcz4_3 : w3.cell? ⟨gb278, 3, none⟩ = some (.int .i64 0) := (blk_cell BK278.out 3).trans rfl; have hcz4_4 : w3.cell? ⟨gb278, 4, none⟩ = some (.int .u64 0) := (blk_cell BK278.out 4).trans rfl; have hcz4_5 : w3.cell? ⟨gb278, 5, none⟩ = some (.int .u32 0) := (blk_cell BK278.out 5).trans rfl; have hfz4_0 := blk_frozen BK278.out 0; have hfz4_1 := blk_frozen BK278.out 1; have hfz4_2 := blk_frozen BK278.out 2; have hfz4_3 := blk_frozen BK278.out 3; have hfz4_4 := blk_frozen BK278.out 4; have hfz4_5 := blk_frozen BK278.out 5))
   refine bodyPost_ret (results_ct rfl _ _ gb278 27 #[.int .i64 0, .int .i64 0, .int .i64 0, .int .i64 0, .int .u64 0, .int .u32 0] (0, 0) _ rfl (by (with_reducible repeat (first | refine blk_drewN ?_ _ | refine blk_drew ?_ | refine blk_alloc ?_ _)); refine blk_put (cs := #[.int .i64 0, .int .i64 0, .int .i64 0, .int .i64 0, .int .u64 0, .int .u32 0]) ?_ 5 _ rfl; (with_reducible repeat (first | refine blk_drewN ?_ _ | refine blk_drew ?_ | refine blk_alloc ?_ _)); refine blk_put (cs := #[.int .i64 0, .int .i64 0, .int .i64 0, .int .i64 0, .int .u64 0, .int .u32 0]) ?_ 4 _ rfl; (with_reducible repeat (first | refine blk_drewN ?_ _ | refine blk_drew ?_ | refine blk_alloc ?_ _)); refine blk_put (cs := #[.int .i64 0, .int .i64 0, .int .i64 0, .int .i64 0, .int .u64 0, .int .u32 0]) ?_ 3 _ rfl; (with_reducible repeat (first | refine blk_drewN ?_ _ | refine blk_drew ?_ | refine blk_alloc ?_ _)); refine blk_put (cs := #[.int .i64 0, .int .i64 0, .int .i64 0, .int .i64 0, .int .u64 0, .int .u32 0]) ?_ 2 _ rfl; (with_reducible repeat (first | refine blk_drewN ?_ _ | refine blk_drew ?_ | refine blk_alloc ?_ _)); refine blk_put (cs := #[.int .i64 0, .int .i64 0, .int .i64 0, .int .i64 0, .int .u64 0, .int .u32 0]) ?_ 1 _ rfl; (with_reducible repeat (first | refine blk_drewN ?_ _ | refine blk_drew ?_ | refine blk_alloc ?_ _)); refine blk_put (cs := #[.int .i64 0, .int .i64 0, .int .i64 0, .int .i64 0, .int .u64 0, .int .u32 0]) ?_ 0 _ rfl; (with_reducible repeat (first | refine blk_drewN ?_ _ | refine blk_drew ?_ | refine blk_alloc ?_ _)); exact BK278.out) Tryd.underlying27 rfl (by kernel_rfl)) rfl ?_
   exact ⟨by first | rfl | (simp [errW_none, errW_some] <;> rfl) | (simp [*, errW_none, errW_some] <;> rfl), by repeat (first | (with_reducible first | exact HB.out | apply below_alloc | apply pw_below_drewN | apply below_drew1 | refine below_set ?_ GE278.out) | exact HB.out)⟩
 · rw [if_neg c2] at H
   have c2b0 : decide ((l0.length : Int) < 28) = false := decide_eq_false c2
   have c2b1 : decide (l0.length < 28) = false := decide_eq_false (by omega)
   clear c2
   have HC5 := Aside0.mk H
   clear H
   go_enter Tryd.func14, Tryd.ntmps14
   go_upto_region 3 with (first | ((with_reducible refine gate_dst (N := 2) rfl ?_); refine box_event ?hg (N := 2) ?hd (cs := #[.int .i64 0, .int .i64 0, .int .i64 0, .int .i64 0, .int .u64 0, .int .u32 0]) (t := 27) ?hr ?_; (case hd => rfl); (case hg => rfl); (case hr => first | (go_simp; done) | (go_simp; rfl)); intro gb278 hg w6 hbox hb; have n0_ := Aside0.mk (below_step (by repeat (first | (with_reducible first | exact HB.out | apply below_alloc | apply pw_below_drewN | apply below_drew1) | exact HB.out)) hb); have n1_ := Aside0.mk (hbox); have n2_ := Aside0.mk ((by rw [hg]; exact (below_size (by repeat (first | (with_reducible first | exact HB.out | apply below_alloc | apply pw_below_drewN | apply below_drew1) | exact HB.out))) : w.heap.size ≤ gb278)); have n3_ := Aside0.mk ((by rw [hg]; exact (below_size (by repeat (first | (with_reducible first | exact HB.out | apply below_alloc | apply pw_below_drewN | apply below_drew1) | exact HB.out))) : w.heap.size ≤ gb278)); clear HB; have HB := n0_; have BK278 := n1_; have GW278 := n2_; have GE278 := n3_; clear n0_ n1_ n2_ n3_; clear hb hbox hg))
   (try simp only [Act.put, List.setIfInBounds_toArray, List.set_cons_zero, List.set_cons_succ])
   go_cut [31] (fun v31 wc => ∃ (kq : Nat) (x31_4 : Bool), v31 = .bool x31_4 ∧ Aside0 (keepsakeref04_Decode.j0 kq l0 x31_4 = some (r1, r2, r3, r4, r5, r6, r7)) ∧ Aside0 (kq ≤ k) ∧ Aside0 (wc.heap[gb278]? = some (.cells #[.int .i64 0, .int .i64 0, .int .i64 0, .int .i64 0, .int .u64 0, .int .u32 0] 27 (0, 0))) ∧ Aside0 (Below w.heap.size w wc))
   case first =>
    have H := HC5.out
    clear HC5
    by_cases c7 : 0 < (l0.length : Int)
    · rw [if_pos c7] at H
      have c7b0 : decide (0 < (l0.length : Int)) = true := decide_eq_true c7
      have c7b1 : decide (0 < l0.length) = true := decide_eq_true (by omega)
      clear c7
      (first | rw [c7b0] | (simp only [i64_w, i32_w]; rw [c7b0]) | skip)
      by_cases c8 : (rd l0 0) = 75
      · rw [if_pos c8] at H
        have c8b0 : ((rd l0 0) == 75) = true := beq_iff_eq.mpr c8
        have c8b1 : ((rd l0 0) != 75) = false := bne_eq_false_iff_eq.mpr c8
        clear c8
        by_cases c9 : 1 < (l0.length : Int)
        · rw [if_pos c9] at H
          have c9b0 : decide (1 < (l0.length : Int)) = true := decide_eq_true c9
          have c9b1 : decide (1 < l0.length) = true := decide_eq_true (by omega)
          clear c9
          by_cases c10 : (rd l0 1) = 69
          · rw [if_pos c10] at H
            have c10b0 : ((rd l0 1) == 69) = true := beq_iff_eq.mpr c10
            have c10b1 : ((rd l0 1) != 69) = false := bne_eq_false_iff_eq.mpr c10
            clear c10
            by_cases c11 : 2 < (l0.length : Int)
            · rw [if_pos c11] at H
              have c11b0 : decide (2 < (l0.length : Int)) = true := decide_eq_true c11
              have c11b1 : decide (2 < l0.length) = true := decide_eq_true (by omega)
              clear c11
              by_cases c12 : (rd l0 2) = 69
              · rw [if_pos c12] at H
                have c12b0 : ((rd l0 2) == 69) = true := beq_iff_eq.mpr c12
                have c12b1 : ((rd l0 2) != 69) = false := bne_eq_false_iff_eq.mpr c12
                clear c12
                by_cases c13 : 3 < (l0.length : Int)
                · rw [if_pos c13] at H
                  have c13b0 : decide (3 < (l0.length : Int)) = true := decide_eq_true c13
                  have c13b1 : decide (3 < l0.length) = true := decide_eq_true (by omega)
                  clear c13
                  have H' := Aside0.mk H
                  clear H
                  have p279 : 0 ≤ (0 : Int) := (by omega)
                  have q279 : 0 < (l0.length : Int) := of_decide_eq_true (by first | (with_reducible assumption) | assumption)
                  obtain ⟨ad279, e279, hx279_0⟩ := Kd.at_int HR0.out 0 p279 q279
                  cases e279
                  have qi279 : (0 < l0.length) = True := eq_true (by omega)
                  (try rw [show ((0 : Int)).toNat = 0 from rfl] at hx279_0)
                  (try rw [Addr.add_zero'] at hx279_0)
                  replace hx279_0 := (HB.out.cell (World.block_lt_of_cell? w _ hx279_0)).trans hx279_0
                  replace p279 := eq_true p279
                  replace q279 := eq_true q279
                  have p280 : 0 ≤ (1 : Int) := (by omega)
                  have q280 : 1 < (l0.length : Int) := of_decide_eq_true (by first | (with_reducible assumption) | assumption)
                  obtain ⟨ad280, e280, hx280_0⟩ := Kd.at_int HR0.out 1 p280 q280
                  obtain rfl : ad279 = ad280 := (by injection e280)
                  (try simp only [show (1 : Int).toNat = 1 from rfl, Nat.reduceMul, Nat.reduceEqDiff, Go.Addr.add, ↓reduceIte] at hx280_0)
                  have qi280 : (1 < l0.length) = True := eq_true (by omega)
                  (try rw [show ((1 : Int)).toNat = 1 from rfl] at hx280_0)
                  replace hx280_0 := (HB.out.cell (World.block_lt_of_cell? w _ hx280_0)).trans hx280_0
                  replace p280 := eq_true p280
                  replace q280 := eq_true q280
                  have p281 : 0 ≤ (2 : Int) := (by omega)
                  have q281 : 2 < (l0.length : Int) := of_decide_eq_true (by first | (with_reducible assumption) | assumption)
                  obtain ⟨ad281, e281, hx281_0⟩ := Kd.at_int HR0.out 2 p281 q281
                  obtain rfl : ad279 = ad281 := (by injection e281)
                  (try simp only [show (2 : Int).toNat = 2 from rfl, Nat.reduceMul, Nat.reduceEqDiff, Go.Addr.add, ↓reduceIte] at hx281_0)
                  have qi281 : (2 < l0.length) = True := eq_true (by omega)
                  (try rw [show ((2 : Int)).toNat = 2 from rfl] at hx281_0)
                  replace hx281_0 := (HB.out.cell (World.block_lt_of_cell? w _ hx281_0)).trans hx281_0
                  replace p281 := eq_true p281
                  replace q281 := eq_true q281
                  have p282 : 0 ≤ (3 : Int) := (by omega)
                  have q282 : 3 < (l0.length : Int) := of_decide_eq_true (by first | (with_reducible assumption) | assumption)
                  obtain ⟨ad282, e282, hx282_0⟩ := Kd.at_int HR0.out 3 p282 q282
                  obtain rfl : ad279 = ad282 := (by injection e282)
                  (try simp only [show (3 : Int).toNat = 3 from rfl, Nat.reduceMul, Nat.reduceEqDiff, Go.Addr.add, ↓reduceIte] at hx282_0)
                  have qi282 : (3 < l0.length) = True := eq_true (by omega)
                  (try rw [show ((3 : Int)).toNat = 3 from rfl] at hx282_0)
                  replace hx282_0 := (HB.out.cell (World.block_lt_of_cell? w _ hx282_0)).trans hx282_0
                  replace p282 := eq_true p282
                  replace q282 := eq_true q282
                  go_wp2
                  go_meet
                  case rel => exact ⟨_, (((rd l0 3) != 80)), (by first | rfl | (simp; done) | (simp [*]; done) | (simp; omega)), H', ⟨by first | omega | exact Nat.le_refl _⟩, ⟨by (with_reducible repeat (first | refine blk_drewN ?_ _ | refine blk_drew ?_ | refine blk_alloc ?_ _)); exact BK278.out⟩, ⟨by repeat (first | (with_reducible first | exact HB.out | apply below_alloc | apply pw_below_drewN | apply below_drew1 | refine below_set ?_ GE278.out) | exact HB.out)⟩⟩
                · rw [if_neg c13] at H
                  exact absurd H (by simp)
              · rw [if_neg c12] at H
                have c12b0 : ((rd l0 2) == 69) = false := beq_eq_false_iff_ne.mpr c12
                have c12b1 : ((rd l0 2) != 69) = true := bne_iff_ne.mpr c12
                have H' := Aside0.mk H
                clear H
                have p279 : 0 ≤ (0 : Int) := (by omega)
                have q279 : 0 < (l0.length : Int) := of_decide_eq_true (by first | (with_reducible assumption) | assumption)
                obtain ⟨ad279, e279, hx279_0⟩ := Kd.at_int HR0.out 0 p279 q279
                cases e279
                have qi279 : (0 < l0.length) = True := eq_true (by omega)
                (try rw [show ((0 : Int)).toNat = 0 from rfl] at hx279_0)
                (try rw [Addr.add_zero'] at hx279_0)
                replace hx279_0 := (HB.out.cell (World.block_lt_of_cell? w _ hx279_0)).trans hx279_0
                replace p279 := eq_true p279
                replace q279 := eq_true q279
                have p280 : 0 ≤ (1 : Int) := (by omega)
                have q280 : 1 < (l0.length : Int) := of_decide_eq_true (by first | (with_reducible assumption) | assumption)
                obtain ⟨ad280, e280, hx280_0⟩ := Kd.at_int HR0.out 1 p280 q280
                obtain rfl : ad279 = ad280 := (by injection e280)
                (try simp only [show (1 : Int).toNat = 1 from rfl, Nat.reduceMul, Nat.reduceEqDiff, Go.Addr.add, ↓reduceIte] at hx280_0)
                have qi280 : (1 < l0.length) = True := eq_true (by omega)
                (try rw [show ((1 : Int)).toNat = 1 from rfl] at hx280_0)
                replace hx280_0 := (HB.out.cell (World.block_lt_of_cell? w _ hx280_0)).trans hx280_0
                replace p280 := eq_true p280
                replace q280 := eq_true q280
                have p281 : 0 ≤ (2 : Int) := (by omega)
                have q281 : 2 < (l0.length : Int) := of_decide_eq_true (by first | (with_reducible assumption) | assumption)
                obtain ⟨ad281, e281, hx281_0⟩ := Kd.at_int HR0.out 2 p281 q281
                obtain rfl : ad279 = ad281 := (by injection e281)
                (try simp only [show (2 : Int).toNat = 2 from rfl, Nat.reduceMul, Nat.reduceEqDiff, Go.Addr.add, ↓reduceIte] at hx281_0)
                have qi281 : (2 < l0.length) = True := eq_true (by omega)
                (try rw [show ((2 : Int)).toNat = 2 from rfl] at hx281_0)
                replace hx281_0 := (HB.out.cell (World.block_lt_of_cell? w _ hx281_0)).trans hx281_0
                replace p281 := eq_true p281
                replace q281 := eq_true q281
                go_wp2
                go_meet
                case rel => exact ⟨_, (true), (by first | rfl | (simp; done) | (simp [*]; done) | (simp; omega)), H', ⟨by first | omega | exact Nat.le_refl _⟩, ⟨by (with_reducible repeat (first | refine blk_drewN ?_ _ | refine blk_drew ?_ | refine blk_alloc ?_ _)); exact BK278.out⟩, ⟨by repeat (first | (with_reducible first | exact HB.out | apply below_alloc | apply pw_below_drewN | apply below_drew1 | refine below_set ?_ GE278.out) | exact HB.out)⟩⟩
            · rw [if_neg c11] at H
              exact absurd H (by simp)
          · rw [if_neg c10] at H
            have c10b0 : ((rd l0 1) == 69) = false := beq_eq_false_iff_ne.mpr c10
            have c10b1 : ((rd l0 1) != 69) = true := bne_iff_ne.mpr c10
            have H' := Aside0.mk H
            clear H
            have p279 : 0 ≤ (0 : Int) := (by omega)
            have q279 : 0 < (l0.length : Int) := of_decide_eq_true (by first | (with_reducible assumption) | assumption)
            obtain ⟨ad279, e279, hx279_0⟩ := Kd.at_int HR0.out 0 p279 q279
            cases e279
            have qi279 : (0 < l0.length) = True := eq_true (by omega)
            (try rw [show ((0 : Int)).toNat = 0 from rfl] at hx279_0)
            (try rw [Addr.add_zero'] at hx279_0)
            replace hx279_0 := (HB.out.cell (World.block_lt_of_cell? w _ hx279_0)).trans hx279_0
            replace p279 := eq_true p279
            replace q279 := eq_true q279
            have p280 : 0 ≤ (1 : Int) := (by omega)
            have q280 : 1 < (l0.length : Int) := of_decide_eq_true (by first | (with_reducible assumption) | assumption)
            obtain ⟨ad280, e280, hx280_0⟩ := Kd.at_int HR0.out 1 p280 q280
            obtain rfl : ad279 = ad280 := (by injection e280)
            (try simp only [show (1 : Int).toNat = 1 from rfl, Nat.reduceMul, Nat.reduceEqDiff, Go.Addr.add, ↓reduceIte] at hx280_0)
            have qi280 : (1 < l0.length) = True := eq_true (by omega)
            (try rw [show ((1 : Int)).toNat = 1 from rfl] at hx280_0)
            replace hx280_0 := (HB.out.cell (World.block_lt_of_cell? w _ hx280_0)).trans hx280_0
            replace p280 := eq_true p280
            replace q280 := eq_true q280
            go_wp2
            go_meet
            case rel => exact ⟨_, (true), (by first | rfl | (simp; done) | (simp [*]; done) | (simp; omega)), H', ⟨by first | omega | exact Nat.le_refl _⟩, ⟨by (with_reducible repeat (first | refine blk_drewN ?_ _ | refine blk_drew ?_ | refine blk_alloc ?_ _)); exact BK278.out⟩, ⟨by repeat (first | (with_reducible first | exact HB.out | apply below_alloc | apply pw_below_drewN | apply below_drew1 | refine below_set ?_ GE278.out) | exact HB.out)⟩⟩
        · rw [if_neg c9] at H
          exact absurd H (by simp)
      · rw [if_neg c8] at H
        have c8b0 : ((rd l0 0) == 75) = false := beq_eq_false_iff_ne.mpr c8
        have c8b1 : ((rd l0 0) != 75) = true := bne_iff_ne.mpr c8
        have H' := Aside0.mk H
        clear H
        have p279 : 0 ≤ (0 : Int) := (by omega)
        have q279 : 0 < (l0.length : Int) := of_decide_eq_true (by first | (with_reducible assumption) | assumption)
        obtain ⟨ad279, e279, hx279_0⟩ := Kd.at_int HR0.out 0 p279 q279
        cases e279
        have qi279 : (0 < l0.length) = True := eq_true (by omega)
        (try rw [show ((0 : Int)).toNat = 0 from rfl] at hx279_0)
        (try rw [Addr.add_zero'] at hx279_0)
        replace hx279_0 := (HB.out.cell (World.block_lt_of_cell? w _ hx279_0)).trans hx279_0
        replace p279 := eq_true p279
        replace q279 := eq_true q279
        go_wp2
        go_meet
        case rel => exact ⟨_, (true), (by first | rfl | (simp; done) | (simp [*]; done) | (simp; omega)), H', ⟨by first | omega | exact Nat.le_refl _⟩, ⟨by (with_reducible repeat (first | refine blk_drewN ?_ _ | refine blk_drew ?_ | refine blk_alloc ?_ _)); exact BK278.out⟩, ⟨by repeat (first | (with_reducible first | exact HB.out | apply below_alloc | apply pw_below_drewN | apply below_drew1 | refine below_set ?_ GE278.out) | exact HB.out)⟩⟩
    · rw [if_neg c7] at H
      exact absurd H (by simp)
   case rest =>
    clear HC5
    try clear c1
    try clear c2
    try clear c2b0
    try clear c2b1
    try clear p2
    try clear q2
    try clear hx2
    try clear qi2
    try clear c7
    try clear c7b0
    try clear c7b1
    try clear c8
    try clear c8b0
    try clear c8b1
    try clear c9
    try clear c9b0
    try clear c9b1
    try clear c10
    try clear c10b0
    try clear c10b1
    try clear c11
    try clear c11b0
    try clear c11b1
    try clear c12
    try clear c12b0
    try clear c12b1
    try clear c13
    try clear c13b0
    try clear c13b1
    try clear hcz4_0
    try clear hcz4_1
    try clear hcz4_2
    try clear hcz4_3
    try clear hcz4_4
    try clear hcz4_5
    try clear hfz4_0
    try clear hfz4_1
    try clear hfz4_2
    try clear hfz4_3
    try clear hfz4_4
    try clear hfz4_5
    try clear hx279_0
    try clear hx280_0
    try clear hx281_0
    try clear hx282_0
    try clear p279
    try clear p280
    try clear p281
    try clear p282
    try clear q279
    try clear q280
    try clear q281
    try clear q282
    obtain ⟨kq, x31_4, rfl, HA, HJ4, BK278, HB⟩ := hcut
    cases kq with
    | zero => exact absurd HA.out (by simp [keepsakeref04_Decode.j0])
    | succ kj4 =>
     have H := HA.out
     clear HA
     simp only [keepsakeref04_Decode.j0] at H
     by_cases c14 : x31_4 = true
     · subst c14
       have H1 : (some (0, 0, 0, 0, 0, 0, 6)) = some (r1, r2, r3, r4, r5, r6, r7) := by rw [if_pos rfl] at H; exact H
       clear H
       have H := H1
       clear H1
       simp only [Option.some.injEq, Prod.mk.injEq] at H
       obtain ⟨rfl, rfl, rfl, rfl, rfl, rfl, rfl⟩ := H
       have hcz15_0 : wc.cell? ⟨gb278, 0, none⟩ = some (.int .i64 0) := (blk_cell BK278.out 0).trans rfl
       have hcz15_1 : wc.cell? ⟨gb278, 1, none⟩ = some (.int .i64 0) := (blk_cell BK278.out 1).trans rfl
       have hcz15_2 : wc.cell? ⟨gb278, 2, none⟩ = some (.int .i64 0) := (blk_cell BK278.out 2).trans rfl
       have hcz15_3 : wc.cell? ⟨gb278, 3, none⟩ = some (.int .i64 0) := (blk_cell BK278.out 3).trans rfl
       have hcz15_4 : wc.cell? ⟨gb278, 4, none⟩ = some (.int .u64 0) := (blk_cell BK278.out 4).trans rfl
       have hcz15_5 : wc.cell? ⟨gb278, 5, none⟩ = some (.int .u32 0) := (blk_cell BK278.out 5).trans rfl
       have hfz15_0 := blk_frozen BK278.out 0
       have hfz15_1 := blk_frozen BK278.out 1
       have hfz15_2 := blk_frozen BK278.out 2
       have hfz15_3 := blk_frozen BK278.out 3
       have hfz15_4 := blk_frozen BK278.out 4
       have hfz15_5 := blk_frozen BK278.out 5
       go_wp2
       refine bodyPost_ret (results_ct rfl _ _ gb278 27 #[.int .i64 0, .int .i64 0, .int .i64 0, .int .i64 0, .int .u64 0, .int .u32 0] (0, 0) _ rfl (by (with_reducible repeat (first | refine blk_drewN ?_ _ | refine blk_drew ?_ | refine blk_alloc ?_ _)); refine blk_put (cs := #[.int .i64 0, .int .i64 0, .int .i64 0, .int .i64 0, .int .u64 0, .int .u32 0]) ?_ 5 _ rfl; (with_reducible repeat (first | refine blk_drewN ?_ _ | refine blk_drew ?_ | refine blk_alloc ?_ _)); refine blk_put (cs := #[.int .i64 0, .int .i64 0, .int .i64 0, .int .i64 0, .int .u64 0, .int .u32 0]) ?_ 4 _ rfl; (with_reducible repeat (first | refine blk_drewN ?_ _ | refine blk_drew ?_ | refine blk_alloc ?_ _)); refine blk_put (cs := #[.int .i64 0, .int .i64 0, .int .i64 0, .int .i64 0, .int .u64 0, .int .u32 0]) ?_ 3 _ rfl; (with_reducible repeat (first | refine blk_drewN ?_ _ | refine blk_drew ?_ | refine blk_alloc ?_ _)); refine blk_put (cs := #[.int .i64 0, .int .i64 0, .int .i64 0, .int .i64 0, .int .u64 0, .int .u32 0]) ?_ 2 _ rfl; (with_reducible repeat (first | refine blk_drewN ?_ _ | refine blk_drew ?_ | refine blk_alloc ?_ _)); refine blk_put (cs := #[.int .i64 0, .int .i64 0, .int .i64 0, .int .i64 0, .int .u64 0, .int .u32 0]) ?_ 1 _ rfl; (with_reducible repeat (first | refine blk_drewN ?_ _ | refine blk_drew ?_ | refine blk_alloc ?_ _)); refine blk_put (cs := #[.int .i64 0, .int .i64 0, .int .i64 0, .int .i64 0, .int .u64 0, .int .u32 0]) ?_ 0 _ rfl; (with_reducible repeat (first | refine blk_drewN ?_ _ | refine blk_drew ?_ | refine blk_alloc ?_ _)); exact BK278.out) Tryd.underlying27 rfl (by kernel_rfl)) rfl ?_
       exact ⟨by first | rfl | (simp [errW_none, errW_some] <;> rfl) | (simp [*, errW_none, errW_some] <;> rfl), by repeat (first | (with_reducible first | exact HB.out | apply below_alloc | apply pw_below_drewN | apply below_drew1 | refine below_set ?_ GE278.out) | exact HB.out)⟩
     · replace c14 := Bool.eq_false_iff.mpr c14
       subst c14
       have H1 : (if 4 < (l0.length : Int) then (if (rd l0 4) = 1 then (if 24 ≤ 28 then (if 28 ≤ (l0.length : Int) then ((keepsakeref04_Number.f kj4 ((l0.take 28).drop 24)).bind fun t285 => (if 24 ≤ (l0.length : Int) then ((keepsakeref01_Sum.f kj4 (l0.take 24)).bind fun t287 => (if t285 = (IntKind.u64.wrap (t287)) then (if 5 < (l0.length : Int) then (if 6 < (l0.length : Int) then (if 7 < (l0.length : Int) then (if 8 ≤ 12 then (if 12 ≤ (l0.length : Int) then ((keepsakeref04_Number.f kj4 ((l0.take 12).drop 8)).bind fun t293 => (if 12 ≤ 20 then (if 20 ≤ (l0.length : Int) then ((keepsakeref04_Number.f kj4 ((l0.take 20).drop 12)).bind fun t295 => (if 20 ≤ 24 then ((keepsakeref04_Number.f kj4 ((l0.take 24).drop 20)).bind fun t297 => ((keepsakeref04_can.f (wrap64 (rd l0 5)) (wrap64 (rd l0 6)) (wrap64 (rd l0 7)) (wrap64 (t293)) t295 ((t297) % 4294967296)).bind fun t298 => (if t298 = true then (some (wrap64 (rd l0 5), wrap64 (rd l0 6), wrap64 (rd l0 7), wrap64 (t293), t295, (t297) % 4294967296, 0)) else (some (0, 0, 0, 0, 0, 0, 9))))) else (none))) else (none)) else (none))) else (none)) else (none)) else (none)) else (none)) else (none)) else (some (0, 0, 0, 0, 0, 0, 8)))) else (none))) else (none)) else (none)) else (some (0, 0, 0, 0, 0, 0, 7))) else (none)) = some (r1, r2, r3, r4, r5, r6, r7) := by rw [if_neg (show ¬ (false = true) by decide)] at H; exact H
       clear H
       have H := H1
       clear H1
       by_cases c16 : 4 < (l0.length : Int)
       · rw [if_pos c16] at H
         have c16b0 : decide (4 < (l0.length : Int)) = true := decide_eq_true c16
         have c16b1 : decide (4 < l0.length) = true := decide_eq_true (by omega)
         clear c16
         by_cases c17 : (rd l0 4) = 1
         · rw [if_pos c17] at H
           have c17b0 : ((rd l0 4) == 1) = true := beq_iff_eq.mpr c17
           have c17b1 : ((rd l0 4) != 1) = false := bne_eq_false_iff_eq.mpr c17
           clear c17
           by_cases c18 : 24 ≤ 28
           · rw [if_pos c18] at H
             have c18b0 := eq_true c18
             have c18b1 : decide (24 ≤ 28) = true := decide_eq_true c18
             clear c18
             by_cases c19 : 28 ≤ (l0.length : Int)
             · rw [if_pos c19] at H
               have c19b0 := eq_true c19
               have c19b1 : decide (28 ≤ (l0.length : Int)) = true := decide_eq_true c19
               clear c19
               replace H := Option.bind_eq_some_iff.mp H
               obtain ⟨t285, A200, H⟩ := H
               replace H : (if 24 ≤ (l0.length : Int) then ((keepsakeref01_Sum.f kj4 (l0.take 24)).bind fun t287 => (if t285 = (IntKind.u64.wrap (t287)) then (if 5 < (l0.length : Int) then (if 6 < (l0.length : Int) then (if 7 < (l0.length : Int) then (if 8 ≤ 12 then (if 12 ≤ (l0.length : Int) then ((keepsakeref04_Number.f kj4 ((l0.take 12).drop 8)).bind fun t293 => (if 12 ≤ 20 then (if 20 ≤ (l0.length : Int) then ((keepsakeref04_Number.f kj4 ((l0.take 20).drop 12)).bind fun t295 => (if 20 ≤ 24 then ((keepsakeref04_Number.f kj4 ((l0.take 24).drop 20)).bind fun t297 => ((keepsakeref04_can.f (wrap64 (rd l0 5)) (wrap64 (rd l0 6)) (wrap64 (rd l0 7)) (wrap64 (t293)) t295 ((t297) % 4294967296)).bind fun t298 => (if t298 = true then (some (wrap64 (rd l0 5), wrap64 (rd l0 6), wrap64 (rd l0 7), wrap64 (t293), t295, (t297) % 4294967296, 0)) else (some (0, 0, 0, 0, 0, 0, 9))))) else (none))) else (none)) else (none))) else (none)) else (none)) else (none)) else (none)) else (none)) else (some (0, 0, 0, 0, 0, 0, 8)))) else (none)) = some (r1, r2, r3, r4, r5, r6, r7) := H
               have A20 := Aside0.mk A200
               clear A200
               by_cases c21 : 24 ≤ (l0.length : Int)
               · rw [if_pos c21] at H
                 have c21b0 := eq_true c21
                 have c21b1 : decide (24 ≤ (l0.length : Int)) = true := decide_eq_true c21
                 clear c21
                 replace H := Option.bind_eq_some_iff.mp H
                 obtain ⟨t287, A220, H⟩ := H
                 replace H : (if t285 = (IntKind.u64.wrap (t287)) then (if 5 < (l0.length : Int) then (if 6 < (l0.length : Int) then (if 7 < (l0.length : Int) then (if 8 ≤ 12 then (if 12 ≤ (l0.length : Int) then ((keepsakeref04_Number.f kj4 ((l0.take 12).drop 8)).bind fun t293 => (if 12 ≤ 20 then (if 20 ≤ (l0.length : Int) then ((keepsakeref04_Number.f kj4 ((l0.take 20).drop 12)).bind fun t295 => (if 20 ≤ 24 then ((keepsakeref04_Number.f kj4 ((l0.take 24).drop 20)).bind fun t297 => ((keepsakeref04_can.f (wrap64 (rd l0 5)) (wrap64 (rd l0 6)) (wrap64 (rd l0 7)) (wrap64 (t293)) t295 ((t297) % 4294967296)).bind fun t298 => (if t298 = true then (some (wrap64 (rd l0 5), wrap64 (rd l0 6), wrap64 (rd l0 7), wrap64 (t293), t295, (t297) % 4294967296, 0)) else (some (0, 0, 0, 0, 0, 0, 9))))) else (none))) else (none)) else (none))) else (none)) else (none)) else (none)) else (none)) else (none)) else (some (0, 0, 0, 0, 0, 0, 8))) = some (r1, r2, r3, r4, r5, r6, r7) := H
                 have A22 := Aside0.mk A220
                 clear A220
                 by_cases c23 : t285 = (IntKind.u64.wrap (t287))
                 · rw [if_pos c23] at H
                   have c23b0 : (t285 == (IntKind.u64.wrap (t287))) = true := beq_iff_eq.mpr c23
                   have c23b1 : (t285 != (IntKind.u64.wrap (t287))) = false := bne_eq_false_iff_eq.mpr c23
                   clear c23
                   by_cases c24 : 5 < (l0.length : Int)
                   · rw [if_pos c24] at H
                     have c24b0 : decide (5 < (l0.length : Int)) = true := decide_eq_true c24
                     have c24b1 : decide (5 < l0.length) = true := decide_eq_true (by omega)
                     clear c24
                     by_cases c25 : 6 < (l0.length : Int)
                     · rw [if_pos c25] at H
                       have c25b0 : decide (6 < (l0.length : Int)) = true := decide_eq_true c25
                       have c25b1 : decide (6 < l0.length) = true := decide_eq_true (by omega)
                       clear c25
                       by_cases c26 : 7 < (l0.length : Int)
                       · rw [if_pos c26] at H
                         have c26b0 : decide (7 < (l0.length : Int)) = true := decide_eq_true c26
                         have c26b1 : decide (7 < l0.length) = true := decide_eq_true (by omega)
                         clear c26
                         by_cases c27 : 8 ≤ 12
                         · rw [if_pos c27] at H
                           have c27b0 := eq_true c27
                           have c27b1 : decide (8 ≤ 12) = true := decide_eq_true c27
                           clear c27
                           by_cases c28 : 12 ≤ (l0.length : Int)
                           · rw [if_pos c28] at H
                             have c28b0 := eq_true c28
                             have c28b1 : decide (12 ≤ (l0.length : Int)) = true := decide_eq_true c28
                             clear c28
                             replace H := Option.bind_eq_some_iff.mp H
                             obtain ⟨t293, A290, H⟩ := H
                             replace H : (if 12 ≤ 20 then (if 20 ≤ (l0.length : Int) then ((keepsakeref04_Number.f kj4 ((l0.take 20).drop 12)).bind fun t295 => (if 20 ≤ 24 then ((keepsakeref04_Number.f kj4 ((l0.take 24).drop 20)).bind fun t297 => ((keepsakeref04_can.f (wrap64 (rd l0 5)) (wrap64 (rd l0 6)) (wrap64 (rd l0 7)) (wrap64 (t293)) t295 ((t297) % 4294967296)).bind fun t298 => (if t298 = true then (some (wrap64 (rd l0 5), wrap64 (rd l0 6), wrap64 (rd l0 7), wrap64 (t293), t295, (t297) % 4294967296, 0)) else (some (0, 0, 0, 0, 0, 0, 9))))) else (none))) else (none)) else (none)) = some (r1, r2, r3, r4, r5, r6, r7) := H
                             have A29 := Aside0.mk A290
                             clear A290
                             by_cases c30 : 12 ≤ 20
                             · rw [if_pos c30] at H
                               have c30b0 := eq_true c30
                               have c30b1 : decide (12 ≤ 20) = true := decide_eq_true c30
                               clear c30
                               by_cases c31 : 20 ≤ (l0.length : Int)
                               · rw [if_pos c31] at H
                                 have c31b0 := eq_true c31
                                 have c31b1 : decide (20 ≤ (l0.length : Int)) = true := decide_eq_true c31
                                 clear c31
                                 replace H := Option.bind_eq_some_iff.mp H
                                 obtain ⟨t295, A320, H⟩ := H
                                 replace H : (if 20 ≤ 24 then ((keepsakeref04_Number.f kj4 ((l0.take 24).drop 20)).bind fun t297 => ((keepsakeref04_can.f (wrap64 (rd l0 5)) (wrap64 (rd l0 6)) (wrap64 (rd l0 7)) (wrap64 (t293)) t295 ((t297) % 4294967296)).bind fun t298 => (if t298 = true then (some (wrap64 (rd l0 5), wrap64 (rd l0 6), wrap64 (rd l0 7), wrap64 (t293), t295, (t297) % 4294967296, 0)) else (some (0, 0, 0, 0, 0, 0, 9))))) else (none)) = some (r1, r2, r3, r4, r5, r6, r7) := H
                                 have A32 := Aside0.mk A320
                                 clear A320
                                 by_cases c33 : 20 ≤ 24
                                 · rw [if_pos c33] at H
                                   have c33b0 := eq_true c33
                                   have c33b1 : decide (20 ≤ 24) = true := decide_eq_true c33
                                   clear c33
                                   have c34b0 := eq_true (of_decide_eq_true (by first | (with_reducible assumption) | assumption) : 24 ≤ (l0.length : Int))
                                   replace H := Option.bind_eq_some_iff.mp H
                                   obtain ⟨t297, A350, H⟩ := H
                                   replace H : ((keepsakeref04_can.f (wrap64 (rd l0 5)) (wrap64 (rd l0 6)) (wrap64 (rd l0 7)) (wrap64 (t293)) t295 ((t297) % 4294967296)).bind fun t298 => (if t298 = true then (some (wrap64 (rd l0 5), wrap64 (rd l0 6), wrap64 (rd l0 7), wrap64 (t293), t295, (t297) % 4294967296, 0)) else (some (0, 0, 0, 0, 0, 0, 9)))) = some (r1, r2, r3, r4, r5, r6, r7) := H
                                   have A35 := Aside0.mk A350
                                   clear A350
                                   replace H := Option.bind_eq_some_iff.mp H
                                   obtain ⟨t298, A360, H⟩ := H
                                   replace H : (if t298 = true then (some (wrap64 (rd l0 5), wrap64 (rd l0 6), wrap64 (rd l0 7), wrap64 (t293), t295, (t297) % 4294967296, 0)) else (some (0, 0, 0, 0, 0, 0, 9))) = some (r1, r2, r3, r4, r5, r6, r7) := H
                                   have A36 := Aside0.mk A360
                                   clear A360
                                   by_cases c37 : t298 = true
                                   · subst c37
                                     have H1 : (some (wrap64 (rd l0 5), wrap64 (rd l0 6), wrap64 (rd l0 7), wrap64 (t293), t295, (t297) % 4294967296, 0)) = some (r1, r2, r3, r4, r5, r6, r7) := by rw [if_pos rfl] at H; exact H
                                     clear H
                                     have H := H1
                                     clear H1
                                     simp only [Option.some.injEq, Prod.mk.injEq] at H
                                     obtain ⟨rfl, rfl, rfl, rfl, rfl, rfl, rfl⟩ := H
                                     have p283 : 0 ≤ (4 : Int) := (by omega)
                                     have q283 : 4 < (l0.length : Int) := of_decide_eq_true (by first | (with_reducible assumption) | assumption)
                                     obtain ⟨ad283, e283, hx283_0⟩ := Kd.at_int HR0.out 4 p283 q283
                                     cases e283
                                     (try simp only [show (4 : Int).toNat = 4 from rfl, Nat.reduceMul, Nat.reduceEqDiff, Go.Addr.add, ↓reduceIte] at hx283_0)
                                     have qi283 : (4 < l0.length) = True := eq_true (by omega)
                                     (try rw [show ((4 : Int)).toNat = 4 from rfl] at hx283_0)
                                     replace hx283_0 := (HB.out.cell (World.block_lt_of_cell? w _ hx283_0)).trans hx283_0
                                     replace p283 := eq_true p283
                                     replace q283 := eq_true q283
                                     try go_wp2
                                     have n0_ := Aside0.mk (blk_drew BK278.out)
                                     have n1_ := Aside0.mk (below_drew1 HB.out)
                                     clear BK278
                                     clear HB
                                     have BK278 := n0_
                                     have HB := n1_
                                     clear n0_ n1_
                                     obtain ⟨i039, hi039, _, hsz39, _⟩ := info_parts info5
                                     obtain ⟨A39, hcut39, hA39, hC39⟩ := print_mid_of (P := Tryd.prog) (Value.int .u8) 0 29 5 .i64 .i64 Tryd.underlying29 hi039 hsz39 (some ad283) c0 l0 24 28 (by omega) (by first | omega | exact of_decide_eq_true (by first | (with_reducible assumption) | assumption)) (of_decide_eq_true (by first | (with_reducible assumption) | assumption)) HC0.out
                                     have HR284 := Aside0.mk (Kd.C_of_reads (h1 := fun _ => rfl) (hA39 _ (Kd.reads_of_C HR0.out)))
                                     have HC284 := Aside0.mk hC39
                                     clear hA39 hC39 hi039 hsz39
                                     obtain ⟨i040, hi040, _, hsz40, _⟩ := info_parts info5
                                     obtain ⟨hcut40, hA40, hC40⟩ := print_take_of (P := Tryd.prog) (Value.int .u8) 0 29 5 .i64 Tryd.underlying29 hi040 hsz40 (some ad283) c0 l0 24 (by omega) (of_decide_eq_true (by first | (with_reducible assumption) | assumption)) HC0.out
                                     have HR286 := Aside0.mk (Kd.C_of_reads (h1 := fun _ => rfl) (hA40 _ (Kd.reads_of_C HR0.out)))
                                     have HC286 := Aside0.mk hC40
                                     clear hA40 hC40 hi040 hsz40
                                     refine start_ (n := 8) (S := fun w' => True) (ds := []) #[false, false, false, false, false, false, false, false] (by kernel_rfl) rfl rfl trivial (fun hHeld => ?_); refine with_tabW keepsakeref04_Decode.tab7 keepsakeref04_Decode.bits7 (fun HT_ HW_ => ?_)
                                     generalize wc.drew = w38 at BK278 HB HR284 HR286 hHeld ⊢
                                     refine pure_ (i := 0) (N := some 38) (v := ?_) (a' := ?_) #[true, false, false, false, false, false, false, false] rfl rfl (any_of HT_.out (by kernel_rfl)) (fun _ _ _ h => h) (Or.inl ⟨by rfl, ?_⟩) ?_ ?_
                                     rotate_left
                                     · intro w'
                                       go_simp
                                       with_reducible rfl
                                     rotate_left
                                     · simp only [Act.put, List.setIfInBounds_toArray, List.set_cons_zero, List.set_cons_succ, i64_w, i32_w]
                                       rfl
                                     refine pure_ (i := 1) (N := some 39) (v := ?_) (a' := ?_) #[true, true, false, false, false, false, false, false] rfl rfl (any_of HT_.out (by kernel_rfl)) (fun _ _ _ h => h) (Or.inl ⟨by rfl, ?_⟩) ?_ ?_
                                     rotate_left
                                     · intro w'
                                       go_simp
                                       with_reducible rfl
                                     rotate_left
                                     · simp only [Act.put, List.setIfInBounds_toArray, List.set_cons_zero, List.set_cons_succ, i64_w, i32_w]
                                       rfl
                                     refine pure_ (i := 3) (N := some 41) (v := ?_) (a' := ?_) #[true, true, false, true, false, false, false, false] rfl rfl (any_of HT_.out (by kernel_rfl)) (fun _ _ _ h => h) (Or.inl ⟨by rfl, ?_⟩) ?_ ?_
                                     rotate_left
                                     · intro w'
                                       go_simp
                                       with_reducible rfl
                                     rotate_left
                                     · simp only [Act.put, List.setIfInBounds_toArray, List.set_cons_zero, List.set_cons_succ, i64_w, i32_w]
                                       rfl
                                     refine pure_ (i := 4) (N := some 42) (v := ?_) (a' := ?_) #[true, true, false, true, true, false, false, false] rfl rfl (any_of HT_.out (by kernel_rfl)) (fun _ _ _ h => h) (Or.inl ⟨by rfl, ?_⟩) ?_ ?_
                                     rotate_left
                                     · intro w'
                                       go_simp
                                       with_reducible rfl
                                     rotate_left
                                     · simp only [Act.put, List.setIfInBounds_toArray, List.set_cons_zero, List.set_cons_succ, i64_w, i32_w]
                                       rfl
                                     refine one_ (i := 2) (N := some 40) #[true, true, true, true, true, false, false, false] rfl rfl (one_of HT_.out (by kernel_rfl)) (by decide) (fun K hK => ?_)
                                     refine goes_ Tryd.func27 (by kernel_rfl) rfl #[.slice A39 ((l0.take 28).drop 24).length (c0 - 24)] (by rfl) rfl rfl (by (try simp only [List.map_toArray, List.map_cons, List.map_nil]); first | done | (rw [show ((l0.take 28).drop 24).length = (28 - 24) from (by rw [List.length_drop, List.length_take]; have h_ : (28 : Int) ≤ (l0.length : Int) := of_decide_eq_true (by first | (with_reducible assumption) | assumption); omega)] <;> rfl) | rfl | (simp only [List.length_drop, List.length_take]; rfl)) ?_
                                     with_reducible refine (keepsakeref04_Number.calls kj4 _ _ ((l0.take 28).drop 24) t285 _ ?side1 ?side2 A20.out).mono ?_
                                     (case side1 => repeat (first | exact (Kd.C_below HR284.out HB.out) | (with_reducible refine Kd.C_alloc ?_ _) | (with_reducible refine Kd.C_drewN ?_ _) | (with_reducible refine Kd.C_drew ?_)))
                                     (case side2 => exact HC284.out)
                                     rintro e w' ⟨rfl, ⟨nd, rfl⟩⟩
                                     refine ⟨_, rfl, ?_⟩
                                     refine hK.out _ _ trivial (fun hHeld => ?_)
                                     clear hK K
                                     refine norm_ (a' := ?_) ?_ ?_
                                     rotate_left
                                     · show Act.put _ (some 40) _ = _
                                       simp only [Act.put, List.setIfInBounds_toArray, List.set_cons_zero, List.set_cons_succ, i64_w, i32_w]
                                       rfl
                                     refine one_ (i := 5) (N := some 43) #[true, true, true, true, true, true, false, false] rfl rfl (one_of HT_.out (by kernel_rfl)) (by decide) (fun K hK => ?_)
                                     refine goes_ Tryd.func24 (by kernel_rfl) rfl #[.slice (some ad283) (l0.take 24).length c0] (by rfl) rfl rfl (by (try simp only [List.map_toArray, List.map_cons, List.map_nil]); first | done | (rw [show (l0.take 24).length = 24 from (by rw [List.length_take]; have h_ : (24 : Int) ≤ (l0.length : Int) := of_decide_eq_true (by first | (with_reducible assumption) | assumption); omega)] <;> rfl) | rfl | (simp only [List.length_drop, List.length_take]; rfl)) ?_
                                     with_reducible refine (keepsakeref01_Sum.calls kj4 _ _ (l0.take 24) t287 _ ?side1 ?side2 A22.out).mono ?_
                                     (case side1 => repeat (first | exact (Kd.C_below HR286.out (by repeat (first | (with_reducible first | exact HB.out | apply below_alloc | apply pw_below_drewN | apply below_drew1 | refine below_set ?_ GE278.out) | exact HB.out))) | (with_reducible refine Kd.C_alloc ?_ _) | (with_reducible refine Kd.C_drewN ?_ _) | (with_reducible refine Kd.C_drew ?_)))
                                     (case side2 => exact HC286.out)
                                     rintro e w41 ⟨rfl, hb⟩
                                     refine ⟨_, rfl, ?_⟩
                                     have n0_ := Aside0.mk (blk_below (g := gb278) (o := .cells #[.int .i64 0, .int .i64 0, .int .i64 0, .int .i64 0, .int .u64 0, .int .u32 0] 27 (0, 0)) (by (with_reducible repeat (first | refine blk_drewN ?_ _ | refine blk_drew ?_ | refine blk_alloc ?_ _)); exact BK278.out) hb)
                                     have n1_ := Aside0.mk (below_step (by repeat (first | (with_reducible first | exact HB.out | apply below_alloc | apply pw_below_drewN | apply below_drew1 | refine below_set ?_ GE278.out) | exact HB.out)) hb)
                                     clear BK278
                                     clear HB
                                     have BK278 := n0_
                                     have HB := n1_
                                     clear n0_ n1_
                                     (try clear hb)
                                     (try clear hb2)
                                     (try clear hk)
                                     (try clear hi)
                                     refine hK.out _ _ trivial (fun hHeld => ?_)
                                     clear hK K
                                     refine norm_ (a' := ?_) ?_ ?_
                                     rotate_left
                                     · show Act.put _ (some 43) _ = _
                                       simp only [Act.put, List.setIfInBounds_toArray, List.set_cons_zero, List.set_cons_succ, i64_w, i32_w]
                                       rfl
                                     refine pure_ (i := 6) (N := some 44) (v := ?_) (a' := ?_) #[true, true, true, true, true, true, true, false] rfl rfl (any_of HT_.out (by kernel_rfl)) (fun _ _ _ h => h) (Or.inl ⟨by rfl, ?_⟩) ?_ ?_
                                     rotate_left
                                     · intro w'
                                       go_simp
                                       with_reducible rfl
                                     rotate_left
                                     · simp only [Act.put, List.setIfInBounds_toArray, List.set_cons_zero, List.set_cons_succ, i64_w, i32_w]
                                       rfl
                                     refine pure_ (i := 7) (N := some 45) (v := ?_) (a' := ?_) #[true, true, true, true, true, true, true, true] rfl rfl (any_of HT_.out (by kernel_rfl)) (fun _ _ _ h => h) (Or.inl ⟨by rfl, ?_⟩) ?_ ?_
                                     rotate_left
                                     · intro w'
                                       go_simp
                                       with_reducible rfl
                                     rotate_left
                                     · simp only [Act.put, List.setIfInBounds_toArray, List.set_cons_zero, List.set_cons_succ, i64_w, i32_w]
                                       rfl
                                     refine done_ (done_of HT_.out (by kernel_rfl)) ?_
                                     try go_wp2_with (first | ((with_reducible refine gate_dst (N := 4) rfl ?_); refine box_event ?hg (N := 4) ?hd (cs := #[.int .i64 0, .int .i64 0, .int .i64 0, .int .i64 0, .int .u64 0, .int .u32 0]) (t := 27) ?hr ?_; (case hd => rfl); (case hg => rfl); (case hr => first | (go_simp; done) | (go_simp; rfl)); intro gb288 hg w42 hbox hb; have n0_ := Aside0.mk (blk_below (g := gb278) (o := .cells #[.int .i64 0, .int .i64 0, .int .i64 0, .int .i64 0, .int .u64 0, .int .u32 0] 27 (0, 0)) (by (with_reducible repeat (first | refine blk_drewN ?_ _ | refine blk_drew ?_ | refine blk_alloc ?_ _)); exact BK278.out) hb); have n1_ := Aside0.mk (below_step (by repeat (first | (with_reducible first | exact HB.out | apply below_alloc | apply pw_below_drewN | apply below_drew1 | refine below_set ?_ GE278.out) | exact HB.out)) hb); have n2_ := Aside0.mk (hbox); have n3_ := Aside0.mk ((by rw [hg]; exact (below_size (by repeat (first | (with_reducible first | exact HB.out | apply below_alloc | apply pw_below_drewN | apply below_drew1 | refine below_set ?_ GE278.out) | exact HB.out))) : w.heap.size ≤ gb288)); have n4_ := Aside0.mk ((by rw [hg]; exact (below_size (by repeat (first | (with_reducible first | exact HB.out | apply below_alloc | apply pw_below_drewN | apply below_drew1 | refine below_set ?_ GE278.out) | exact HB.out))) : w.heap.size ≤ gb288)); have n5_ := Aside0.mk ((by rw [hg]; exact Nat.ne_of_lt (blk_lt (g := gb278) (o := .cells #[.int .i64 0, .int .i64 0, .int .i64 0, .int .i64 0, .int .u64 0, .int .u32 0] 27 (0, 0)) (by (with_reducible repeat (first | refine blk_drewN ?_ _ | refine blk_drew ?_ | refine blk_alloc ?_ _)); exact BK278.out)) : gb278 ≠ gb288)); have n6_ := Aside0.mk ((by rw [hg]; exact Nat.ne_of_gt (blk_lt (g := gb278) (o := .cells #[.int .i64 0, .int .i64 0, .int .i64 0, .int .i64 0, .int .u64 0, .int .u32 0] 27 (0, 0)) (by (with_reducible repeat (first | refine blk_drewN ?_ _ | refine blk_drew ?_ | refine blk_alloc ?_ _)); exact BK278.out)) : gb288 ≠ gb278)); clear BK278; clear HB; have BK278 := n0_; have HB := n1_; have BK288 := n2_; have GW288 := n3_; have GE288 := n4_; have NB278_288 := n5_; have NB288_278 := n6_; clear n0_ n1_ n2_ n3_ n4_ n5_ n6_; clear hb hbox hg; have hnb43 := NB288_278.out; have hnc43 := NB278_288.out; have hcz44_0 : w42.cell? ⟨gb288, 0, none⟩ = some (.int .i64 0) := (blk_cell BK288.out 0).trans rfl; have hcz44_1 : w42.cell? ⟨gb288, 1, none⟩ = some (.int .i64 0) := (blk_cell BK288.out 1).trans rfl; have hcz44_2 : w42.cell? ⟨gb288, 2, none⟩ = some (.int .i64 0) := (blk_cell BK288.out 2).trans rfl; have hcz44_3 : w42.cell? ⟨gb288, 3, none⟩ = some (.int .i64 0) := (blk_cell BK288.out 3).trans rfl; have hcz44_4 : w42.cell? ⟨gb288, 4, none⟩ = some (.int .u64 0) := (blk_cell BK288.out 4).trans rfl; have hcz44_5 : w42.cell? ⟨gb288, 5, none⟩ = some (.int .u32 0) := (blk_cell BK288.out 5).trans rfl; have hfz44_0 := blk_frozen BK288.out 0; have hfz44_1 := blk_frozen BK288.out 1; have hfz44_2 := blk_frozen BK288.out 2; have hfz44_3 := blk_frozen BK288.out 3; have hfz44_4 := blk_frozen BK288.out 4; have hfz44_5 := blk_frozen BK288.out 5))
                                     have n0_ : Aside0 (((((((w42.setCell ⟨gb288, 0, none⟩ (.int .i64 0)).setCell ⟨gb288, 1, none⟩ (.int .i64 0)).setCell ⟨gb288, 2, none⟩ (.int .i64 0)).setCell ⟨gb288, 3, none⟩ (.int .i64 0)).setCell ⟨gb288, 4, none⟩ (.int .u64 0)).setCell ⟨gb288, 5, none⟩ (.int .u32 0)).heap[gb278]? = some (.cells #[.int .i64 0, .int .i64 0, .int .i64 0, .int .i64 0, .int .u64 0, .int .u32 0] 27 (0, 0))) := ⟨by (with_reducible repeat (first | refine blk_drewN ?_ _ | refine blk_drew ?_ | refine blk_alloc ?_ _)); refine blk_far ?_ NB278_288.out _; (with_reducible repeat (first | refine blk_drewN ?_ _ | refine blk_drew ?_ | refine blk_alloc ?_ _)); refine blk_far ?_ NB278_288.out _; (with_reducible repeat (first | refine blk_drewN ?_ _ | refine blk_drew ?_ | refine blk_alloc ?_ _)); refine blk_far ?_ NB278_288.out _; (with_reducible repeat (first | refine blk_drewN ?_ _ | refine blk_drew ?_ | refine blk_alloc ?_ _)); refine blk_far ?_ NB278_288.out _; (with_reducible repeat (first | refine blk_drewN ?_ _ | refine blk_drew ?_ | refine blk_alloc ?_ _)); refine blk_far ?_ NB278_288.out _; (with_reducible repeat (first | refine blk_drewN ?_ _ | refine blk_drew ?_ | refine blk_alloc ?_ _)); refine blk_far ?_ NB278_288.out _; (with_reducible repeat (first | refine blk_drewN ?_ _ | refine blk_drew ?_ | refine blk_alloc ?_ _)); exact BK278.out⟩
                                     have n1_ : Aside0 (((((((w42.setCell ⟨gb288, 0, none⟩ (.int .i64 0)).setCell ⟨gb288, 1, none⟩ (.int .i64 0)).setCell ⟨gb288, 2, none⟩ (.int .i64 0)).setCell ⟨gb288, 3, none⟩ (.int .i64 0)).setCell ⟨gb288, 4, none⟩ (.int .u64 0)).setCell ⟨gb288, 5, none⟩ (.int .u32 0)).heap[gb288]? = some (.cells #[.int .i64 0, .int .i64 0, .int .i64 0, .int .i64 0, .int .u64 0, .int .u32 0] 27 (0, 0))) := ⟨by (with_reducible repeat (first | refine blk_drewN ?_ _ | refine blk_drew ?_ | refine blk_alloc ?_ _)); refine blk_put (cs := #[.int .i64 0, .int .i64 0, .int .i64 0, .int .i64 0, .int .u64 0, .int .u32 0]) ?_ 5 _ rfl; (with_reducible repeat (first | refine blk_drewN ?_ _ | refine blk_drew ?_ | refine blk_alloc ?_ _)); refine blk_put (cs := #[.int .i64 0, .int .i64 0, .int .i64 0, .int .i64 0, .int .u64 0, .int .u32 0]) ?_ 4 _ rfl; (with_reducible repeat (first | refine blk_drewN ?_ _ | refine blk_drew ?_ | refine blk_alloc ?_ _)); refine blk_put (cs := #[.int .i64 0, .int .i64 0, .int .i64 0, .int .i64 0, .int .u64 0, .int .u32 0]) ?_ 3 _ rfl; (with_reducible repeat (first | refine blk_drewN ?_ _ | refine blk_drew ?_ | refine blk_alloc ?_ _)); refine blk_put (cs := #[.int .i64 0, .int .i64 0, .int .i64 0, .int .i64 0, .int .u64 0, .int .u32 0]) ?_ 2 _ rfl; (with_reducible repeat (first | refine blk_drewN ?_ _ | refine blk_drew ?_ | refine blk_alloc ?_ _)); refine blk_put (cs := #[.int .i64 0, .int .i64 0, .int .i64 0, .int .i64 0, .int .u64 0, .int .u32 0]) ?_ 1 _ rfl; (with_reducible repeat (first | refine blk_drewN ?_ _ | refine blk_drew ?_ | refine blk_alloc ?_ _)); refine blk_put (cs := #[.int .i64 0, .int .i64 0, .int .i64 0, .int .i64 0, .int .u64 0, .int .u32 0]) ?_ 0 _ rfl; (with_reducible repeat (first | refine blk_drewN ?_ _ | refine blk_drew ?_ | refine blk_alloc ?_ _)); exact BK288.out⟩
                                     have n2_ : Aside0 (Below w.heap.size w ((((((w42.setCell ⟨gb288, 0, none⟩ (.int .i64 0)).setCell ⟨gb288, 1, none⟩ (.int .i64 0)).setCell ⟨gb288, 2, none⟩ (.int .i64 0)).setCell ⟨gb288, 3, none⟩ (.int .i64 0)).setCell ⟨gb288, 4, none⟩ (.int .u64 0)).setCell ⟨gb288, 5, none⟩ (.int .u32 0))) := ⟨by repeat (first | (with_reducible first | exact HB.out | apply below_alloc | apply pw_below_drewN | apply below_drew1 | refine below_set ?_ GE278.out | refine below_set ?_ GE288.out) | exact HB.out)⟩
                                     (try clear BK278)
                                     (try clear BK288)
                                     (try clear HB)
                                     generalize ((((((w42.setCell ⟨gb288, 0, none⟩ (.int .i64 0)).setCell ⟨gb288, 1, none⟩ (.int .i64 0)).setCell ⟨gb288, 2, none⟩ (.int .i64 0)).setCell ⟨gb288, 3, none⟩ (.int .i64 0)).setCell ⟨gb288, 4, none⟩ (.int .u64 0)).setCell ⟨gb288, 5, none⟩ (.int .u32 0)) = w45 at n0_ n1_ n2_ ⊢
                                     have BK278 := n0_
                                     have BK288 := n1_
                                     have HB := n2_
                                     clear n0_ n1_ n2_
                                     have n0_ := Aside0.mk (blk_drew BK278.out)
                                     have n1_ := Aside0.mk (blk_drew BK288.out)
                                     have n2_ := Aside0.mk (below_drew1 HB.out)
                                     clear BK278
                                     clear BK288
                                     clear HB
                                     have BK278 := n0_
                                     have BK288 := n1_
                                     have HB := n2_
                                     clear n0_ n1_ n2_
                                     have p289 : 0 ≤ (5 : Int) := (by omega)
                                     have q289 : 5 < (l0.length : Int) := of_decide_eq_true (by first | (with_reducible assumption) | assumption)
                                     obtain ⟨ad289, e289, hx289_0⟩ := Kd.at_int HR0.out 5 p289 q289
                                     have hw289_0 := hx289_0
                                     (try rw [show ((5 : Int)).toNat = 5 from rfl] at hw289_0)
                                     (try rw [show 5 * 1 = 5 from rfl] at hw289_0)
                                     (try simp only [Nat.reduceMul, Nat.reduceEqDiff, Go.Addr.add, ↓reduceIte] at hw289_0)
                                     obtain rfl : ad283 = ad289 := (by injection e289)
                                     (try simp only [show (5 : Int).toNat = 5 from rfl, Nat.reduceMul, Nat.reduceEqDiff, Go.Addr.add, ↓reduceIte] at hx289_0)
                                     have qi289 : (5 < l0.length) = True := eq_true (by omega)
                                     (try rw [show ((5 : Int)).toNat = 5 from rfl] at hx289_0)
                                     replace hx289_0 := (HB.out.cell (World.block_lt_of_cell? w _ hx289_0)).trans hx289_0
                                     replace p289 := eq_true p289
                                     replace q289 := eq_true q289
                                     have p290 : 0 ≤ (6 : Int) := (by omega)
                                     have q290 : 6 < (l0.length : Int) := of_decide_eq_true (by first | (with_reducible assumption) | assumption)
                                     obtain ⟨ad290, e290, hx290_0⟩ := Kd.at_int HR0.out 6 p290 q290
                                     have hw290_0 := hx290_0
                                     (try rw [show ((6 : Int)).toNat = 6 from rfl] at hw290_0)
                                     (try rw [show 6 * 1 = 6 from rfl] at hw290_0)
                                     (try simp only [Nat.reduceMul, Nat.reduceEqDiff, Go.Addr.add, ↓reduceIte] at hw290_0)
                                     obtain rfl : ad283 = ad290 := (by injection e290)
                                     (try simp only [show (6 : Int).toNat = 6 from rfl, Nat.reduceMul, Nat.reduceEqDiff, Go.Addr.add, ↓reduceIte] at hx290_0)
                                     have qi290 : (6 < l0.length) = True := eq_true (by omega)
                                     (try rw [show ((6 : Int)).toNat = 6 from rfl] at hx290_0)
                                     replace hx290_0 := (HB.out.cell (World.block_lt_of_cell? w _ hx290_0)).trans hx290_0
                                     replace p290 := eq_true p290
                                     replace q290 := eq_true q290
                                     have p291 : 0 ≤ (7 : Int) := (by omega)
                                     have q291 : 7 < (l0.length : Int) := of_decide_eq_true (by first | (with_reducible assumption) | assumption)
                                     obtain ⟨ad291, e291, hx291_0⟩ := Kd.at_int HR0.out 7 p291 q291
                                     have hw291_0 := hx291_0
                                     (try rw [show ((7 : Int)).toNat = 7 from rfl] at hw291_0)
                                     (try rw [show 7 * 1 = 7 from rfl] at hw291_0)
                                     (try simp only [Nat.reduceMul, Nat.reduceEqDiff, Go.Addr.add, ↓reduceIte] at hw291_0)
                                     obtain rfl : ad283 = ad291 := (by injection e291)
                                     (try simp only [show (7 : Int).toNat = 7 from rfl, Nat.reduceMul, Nat.reduceEqDiff, Go.Addr.add, ↓reduceIte] at hx291_0)
                                     have qi291 : (7 < l0.length) = True := eq_true (by omega)
                                     (try rw [show ((7 : Int)).toNat = 7 from rfl] at hx291_0)
                                     replace hx291_0 := (HB.out.cell (World.block_lt_of_cell? w _ hx291_0)).trans hx291_0
                                     replace p291 := eq_true p291
                                     replace q291 := eq_true q291
                                     refine start_ (n := 15) (S := fun w' => w'.cell? ⟨ad283.block, ad283.off + 5, none⟩ = some (.int .u8 (rd l0 5)) ∧ w'.cell? ⟨ad283.block, ad283.off + 6, none⟩ = some (.int .u8 (rd l0 6)) ∧ w'.cell? ⟨ad283.block, ad283.off + 7, none⟩ = some (.int .u8 (rd l0 7))) (ds := []) #[false, false, false, false, false, false, false, false, false, false, false, false, false, false, false] (by kernel_rfl) rfl rfl ⟨((HB.out.cell (World.block_lt_of_cell? w _ hw289_0)).trans hw289_0), ((HB.out.cell (World.block_lt_of_cell? w _ hw290_0)).trans hw290_0), ((HB.out.cell (World.block_lt_of_cell? w _ hw291_0)).trans hw291_0)⟩ (fun hHeld => ?_); refine with_tabW keepsakeref04_Decode.tab10 keepsakeref04_Decode.bits10 (fun HT_ HW_ => ?_)
                                     generalize w45.drew = w46 at BK278 BK288 HB hx289_0 hx290_0 hx291_0 hHeld ⊢
                                     refine pure_ (i := 0) (N := some 48) (v := ?_) (a' := ?_) #[true, false, false, false, false, false, false, false, false, false, false, false, false, false, false] rfl rfl (any_of HT_.out (by kernel_rfl)) (fun _ _ _ h => h) (Or.inl ⟨by rfl, ?_⟩) ?_ ?_
                                     rotate_left
                                     · intro w'
                                       go_simp
                                       with_reducible rfl
                                     rotate_left
                                     · simp only [Act.put, List.setIfInBounds_toArray, List.set_cons_zero, List.set_cons_succ, i64_w, i32_w]
                                       rfl
                                     refine pure_ (i := 1) (N := some 49) (v := ?_) (a' := ?_) #[true, true, false, false, false, false, false, false, false, false, false, false, false, false, false] rfl rfl (any_of HT_.out (by kernel_rfl)) (fun _ _ _ h => h) (Or.inl ⟨by rfl, ?_⟩) ?_ ?_
                                     rotate_left
                                     · intro w'
                                       go_simp
                                       with_reducible rfl
                                     rotate_left
                                     · simp only [Act.put, List.setIfInBounds_toArray, List.set_cons_zero, List.set_cons_succ, i64_w, i32_w]
                                       rfl
                                     refine pure_ (i := 4) (N := some 52) (v := ?_) (a' := ?_) #[true, true, false, false, true, false, false, false, false, false, false, false, false, false, false] rfl rfl (any_of HT_.out (by kernel_rfl)) (fun _ _ _ h => h) (Or.inl ⟨by rfl, ?_⟩) ?_ ?_
                                     rotate_left
                                     · intro w'
                                       go_simp
                                       with_reducible rfl
                                     rotate_left
                                     · simp only [Act.put, List.setIfInBounds_toArray, List.set_cons_zero, List.set_cons_succ, i64_w, i32_w]
                                       rfl
                                     refine pure_ (i := 5) (N := some 53) (v := ?_) (a' := ?_) #[true, true, false, false, true, true, false, false, false, false, false, false, false, false, false] rfl rfl (any_of HT_.out (by kernel_rfl)) (fun _ _ _ h => h) (Or.inl ⟨by rfl, ?_⟩) ?_ ?_
                                     rotate_left
                                     · intro w'
                                       go_simp
                                       with_reducible rfl
                                     rotate_left
                                     · simp only [Act.put, List.setIfInBounds_toArray, List.set_cons_zero, List.set_cons_succ, i64_w, i32_w]
                                       rfl
                                     refine pure_ (i := 8) (N := some 56) (v := ?_) (a' := ?_) #[true, true, false, false, true, true, false, false, true, false, false, false, false, false, false] rfl rfl (any_of HT_.out (by kernel_rfl)) (fun _ _ _ h => h) (Or.inl ⟨by rfl, ?_⟩) ?_ ?_
                                     rotate_left
                                     · intro w'
                                       go_simp
                                       with_reducible rfl
                                     rotate_left
                                     · simp only [Act.put, List.setIfInBounds_toArray, List.set_cons_zero, List.set_cons_succ, i64_w, i32_w]
                                       rfl
                                     refine pure_ (i := 9) (N := some 57) (v := ?_) (a' := ?_) #[true, true, false, false, true, true, false, false, true, true, false, false, false, false, false] rfl rfl (any_of HT_.out (by kernel_rfl)) (fun _ _ _ h => h) (Or.inl ⟨by rfl, ?_⟩) ?_ ?_
                                     rotate_left
                                     · intro w'
                                       go_simp
                                       with_reducible rfl
                                     rotate_left
                                     · simp only [Act.put, List.setIfInBounds_toArray, List.set_cons_zero, List.set_cons_succ, i64_w, i32_w]
                                       rfl
                                     refine take_ (i := 2) (N := some 50) (v := ?_) (a' := ?_) #[true, true, true, false, true, true, false, false, true, true, false, false, false, false, false] rfl rfl (take_ofW HT_.out HW_.out (by kernel_rfl)) (fun _ _ _ h => h) (Or.inl ⟨by rfl, ?_⟩) hHeld ?_ ?_
                                     rotate_left
                                     · rintro w' ⟨s0, s1, s2⟩
                                       go_simp
                                       with_reducible rfl
                                     rotate_left
                                     · simp only [Act.put, List.setIfInBounds_toArray, List.set_cons_zero, List.set_cons_succ, i64_w, i32_w]
                                       rfl
                                     refine pure_ (i := 3) (N := some 51) (v := ?_) (a' := ?_) #[true, true, true, true, true, true, false, false, true, true, false, false, false, false, false] rfl rfl (any_of HT_.out (by kernel_rfl)) (fun _ _ _ h => h) (Or.inl ⟨by rfl, ?_⟩) ?_ ?_
                                     rotate_left
                                     · intro w'
                                       go_simp
                                       with_reducible rfl
                                     rotate_left
                                     · simp only [Act.put, List.setIfInBounds_toArray, List.set_cons_zero, List.set_cons_succ, i64_w, i32_w]
                                       rfl
                                     refine take_ (i := 6) (N := some 54) (v := ?_) (a' := ?_) #[true, true, true, true, true, true, true, false, true, true, false, false, false, false, false] rfl rfl (take_ofW HT_.out HW_.out (by kernel_rfl)) (fun _ _ _ h => h) (Or.inl ⟨by rfl, ?_⟩) hHeld ?_ ?_
                                     rotate_left
                                     · rintro w' ⟨s0, s1, s2⟩
                                       go_simp
                                       with_reducible rfl
                                     rotate_left
                                     · simp only [Act.put, List.setIfInBounds_toArray, List.set_cons_zero, List.set_cons_succ, i64_w, i32_w]
                                       rfl
                                     refine pure_ (i := 7) (N := some 55) (v := ?_) (a' := ?_) #[true, true, true, true, true, true, true, true, true, true, false, false, false, false, false] rfl rfl (any_of HT_.out (by kernel_rfl)) (fun _ _ _ h => h) (Or.inl ⟨by rfl, ?_⟩) ?_ ?_
                                     rotate_left
                                     · intro w'
                                       go_simp
                                       with_reducible rfl
                                     rotate_left
                                     · simp only [Act.put, List.setIfInBounds_toArray, List.set_cons_zero, List.set_cons_succ, i64_w, i32_w]
                                       rfl
                                     refine take_ (i := 10) (N := some 58) (v := ?_) (a' := ?_) #[true, true, true, true, true, true, true, true, true, true, true, false, false, false, false] rfl rfl (take_ofW HT_.out HW_.out (by kernel_rfl)) (fun _ _ _ h => h) (Or.inl ⟨by rfl, ?_⟩) hHeld ?_ ?_
                                     rotate_left
                                     · rintro w' ⟨s0, s1, s2⟩
                                       go_simp
                                       with_reducible rfl
                                     rotate_left
                                     · simp only [Act.put, List.setIfInBounds_toArray, List.set_cons_zero, List.set_cons_succ, i64_w, i32_w]
                                       rfl
                                     refine pure_ (i := 11) (N := some 59) (v := ?_) (a' := ?_) #[true, true, true, true, true, true, true, true, true, true, true, true, false, false, false] rfl rfl (any_of HT_.out (by kernel_rfl)) (fun _ _ _ h => h) (Or.inl ⟨by rfl, ?_⟩) ?_ ?_
                                     rotate_left
                                     · intro w'
                                       go_simp
                                       with_reducible rfl
                                     rotate_left
                                     · simp only [Act.put, List.setIfInBounds_toArray, List.set_cons_zero, List.set_cons_succ, i64_w, i32_w]
                                       rfl
                                     refine pure_ (i := 12) (N := some 60) (v := ?_) (a' := ?_) #[true, true, true, true, true, true, true, true, true, true, true, true, true, false, false] rfl rfl (any_of HT_.out (by kernel_rfl)) (fun _ _ _ h => h) (Or.inl ⟨by rfl, ?_⟩) ?_ ?_
                                     rotate_left
                                     · intro w'
                                       go_simp
                                       with_reducible rfl
                                     rotate_left
                                     · simp only [Act.put, List.setIfInBounds_toArray, List.set_cons_zero, List.set_cons_succ, i64_w, i32_w]
                                       rfl
                                     refine pure_ (i := 13) (N := some 61) (v := ?_) (a' := ?_) #[true, true, true, true, true, true, true, true, true, true, true, true, true, true, false] rfl rfl (any_of HT_.out (by kernel_rfl)) (fun _ _ _ h => h) (Or.inl ⟨by rfl, ?_⟩) ?_ ?_
                                     rotate_left
                                     · intro w'
                                       go_simp
                                       with_reducible rfl
                                     rotate_left
                                     · simp only [Act.put, List.setIfInBounds_toArray, List.set_cons_zero, List.set_cons_succ, i64_w, i32_w]
                                       rfl
                                     refine one_ (i := 14) (N := none) #[true, true, true, true, true, true, true, true, true, true, true, true, true, true, true] rfl rfl (one_of HT_.out (by kernel_rfl)) (by decide) (fun K hK => ?_)
                                     have hs47 : w46.cell? ⟨gb288, 0, none⟩ = some (.int .i64 0) := (blk_cell BK288.out 0).trans rfl
                                     have hfs47 := blk_frozen BK288.out 0
                                     have hns47_0 := NB278_288.out
                                     have hms47_0 := NB288_278.out
                                     have hs48 : w46.cell? ⟨gb288, 1, none⟩ = some (.int .i64 0) := (blk_cell BK288.out 1).trans rfl
                                     have hfs48 := blk_frozen BK288.out 1
                                     have hns48_0 := NB278_288.out
                                     have hms48_0 := NB288_278.out
                                     have hs49 : w46.cell? ⟨gb288, 2, none⟩ = some (.int .i64 0) := (blk_cell BK288.out 2).trans rfl
                                     have hfs49 := blk_frozen BK288.out 2
                                     have hns49_0 := NB278_288.out
                                     have hms49_0 := NB288_278.out
                                     refine skip_ (w1 := ?_) (by rfl) rfl ?_ ?_
                                     rotate_left
                                     · go_simp
                                       rfl
                                     refine hK.out _ _ ⟨((cell_far (p := ⟨gb288, _, none⟩) (by first | exact Nat.ne_of_lt (Nat.lt_of_lt_of_le (by have := World.block_lt_of_cell? _ _ hw289_0; first | rwa [add_block] at this | exact this) GW288.out) | (rw [add_block]; exact Nat.ne_of_lt (Nat.lt_of_lt_of_le (by have := World.block_lt_of_cell? _ _ hw289_0; first | rwa [add_block] at this | exact this) GW288.out)) | (show (Addr.add _ _).block ≠ _; rw [add_block]; exact Nat.ne_of_lt (Nat.lt_of_lt_of_le (by have := World.block_lt_of_cell? _ _ hw289_0; first | rwa [add_block] at this | exact this) GW288.out)) | (dsimp only; exact Nat.ne_of_lt (Nat.lt_of_lt_of_le (by have := World.block_lt_of_cell? _ _ hw289_0; first | rwa [add_block] at this | exact this) GW288.out))) _).trans (((cell_far (p := ⟨gb288, _, none⟩) (by first | exact Nat.ne_of_lt (Nat.lt_of_lt_of_le (by have := World.block_lt_of_cell? _ _ hw289_0; first | rwa [add_block] at this | exact this) GW288.out) | (rw [add_block]; exact Nat.ne_of_lt (Nat.lt_of_lt_of_le (by have := World.block_lt_of_cell? _ _ hw289_0; first | rwa [add_block] at this | exact this) GW288.out)) | (show (Addr.add _ _).block ≠ _; rw [add_block]; exact Nat.ne_of_lt (Nat.lt_of_lt_of_le (by have := World.block_lt_of_cell? _ _ hw289_0; first | rwa [add_block] at this | exact this) GW288.out)) | (dsimp only; exact Nat.ne_of_lt (Nat.lt_of_lt_of_le (by have := World.block_lt_of_cell? _ _ hw289_0; first | rwa [add_block] at this | exact this) GW288.out))) _).trans (((cell_far (p := ⟨gb288, _, none⟩) (by first | exact Nat.ne_of_lt (Nat.lt_of_lt_of_le (by have := World.block_lt_of_cell? _ _ hw289_0; first | rwa [add_block] at this | exact this) GW288.out) | (rw [add_block]; exact Nat.ne_of_lt (Nat.lt_of_lt_of_le (by have := World.block_lt_of_cell? _ _ hw289_0; first | rwa [add_block] at this | exact this) GW288.out)) | (show (Addr.add _ _).block ≠ _; rw [add_block]; exact Nat.ne_of_lt (Nat.lt_of_lt_of_le (by have := World.block_lt_of_cell? _ _ hw289_0; first | rwa [add_block] at this | exact this) GW288.out)) | (dsimp only; exact Nat.ne_of_lt (Nat.lt_of_lt_of_le (by have := World.block_lt_of_cell? _ _ hw289_0; first | rwa [add_block] at this | exact this) GW288.out))) _).trans (hHeld.1)))))), ((cell_far (p := ⟨gb288, _, none⟩) (by first | exact Nat.ne_of_lt (Nat.lt_of_lt_of_le (by have := World.block_lt_of_cell? _ _ hw290_0; first | rwa [add_block] at this | exact this) GW288.out) | (rw [add_block]; exact Nat.ne_of_lt (Nat.lt_of_lt_of_le (by have := World.block_lt_of_cell? _ _ hw290_0; first | rwa [add_block] at this | exact this) GW288.out)) | (show (Addr.add _ _).block ≠ _; rw [add_block]; exact Nat.ne_of_lt (Nat.lt_of_lt_of_le (by have := World.block_lt_of_cell? _ _ hw290_0; first | rwa [add_block] at this | exact this) GW288.out)) | (dsimp only; exact Nat.ne_of_lt (Nat.lt_of_lt_of_le (by have := World.block_lt_of_cell? _ _ hw290_0; first | rwa [add_block] at this | exact this) GW288.out))) _).trans (((cell_far (p := ⟨gb288, _, none⟩) (by first | exact Nat.ne_of_lt (Nat.lt_of_lt_of_le (by have := World.block_lt_of_cell? _ _ hw290_0; first | rwa [add_block] at this | exact this) GW288.out) | (rw [add_block]; exact Nat.ne_of_lt (Nat.lt_of_lt_of_le (by have := World.block_lt_of_cell? _ _ hw290_0; first | rwa [add_block] at this | exact this) GW288.out)) | (show (Addr.add _ _).block ≠ _; rw [add_block]; exact Nat.ne_of_lt (Nat.lt_of_lt_of_le (by have := World.block_lt_of_cell? _ _ hw290_0; first | rwa [add_block] at this | exact this) GW288.out)) | (dsimp only; exact Nat.ne_of_lt (Nat.lt_of_lt_of_le (by have := World.block_lt_of_cell? _ _ hw290_0; first | rwa [add_block] at this | exact this) GW288.out))) _).trans (((cell_far (p := ⟨gb288, _, none⟩) (by first | exact Nat.ne_of_lt (Nat.lt_of_lt_of_le (by have := World.block_lt_of_cell? _ _ hw290_0; first | rwa [add_block] at this | exact this) GW288.out) | (rw [add_block]; exact Nat.ne_of_lt (Nat.lt_of_lt_of_le (by have := World.block_lt_of_cell? _ _ hw290_0; first | rwa [add_block] at this | exact this) GW288.out)) | (show (Addr.add _ _).block ≠ _; rw [add_block]; exact Nat.ne_of_lt (Nat.lt_of_lt_of_le (by have := World.block_lt_of_cell? _ _ hw290_0; first | rwa [add_block] at this | exact this) GW288.out)) | (dsimp only; exact Nat.ne_of_lt (Nat.lt_of_lt_of_le (by have := World.block_lt_of_cell? _ _ hw290_0; first | rwa [add_block] at this | exact this) GW288.out))) _).trans (hHeld.2.1)))))), ((cell_far (p := ⟨gb288, _, none⟩) (by first | exact Nat.ne_of_lt (Nat.lt_of_lt_of_le (by have := World.block_lt_of_cell? _ _ hw291_0; first | rwa [add_block] at this | exact this) GW288.out) | (rw [add_block]; exact Nat.ne_of_lt (Nat.lt_of_lt_of_le (by have := World.block_lt_of_cell? _ _ hw291_0; first | rwa [add_block] at this | exact this) GW288.out)) | (show (Addr.add _ _).block ≠ _; rw [add_block]; exact Nat.ne_of_lt (Nat.lt_of_lt_of_le (by have := World.block_lt_of_cell? _ _ hw291_0; first | rwa [add_block] at this | exact this) GW288.out)) | (dsimp only; exact Nat.ne_of_lt (Nat.lt_of_lt_of_le (by have := World.block_lt_of_cell? _ _ hw291_0; first | rwa [add_block] at this | exact this) GW288.out))) _).trans (((cell_far (p := ⟨gb288, _, none⟩) (by first | exact Nat.ne_of_lt (Nat.lt_of_lt_of_le (by have := World.block_lt_of_cell? _ _ hw291_0; first | rwa [add_block] at this | exact this) GW288.out) | (rw [add_block]; exact Nat.ne_of_lt (Nat.lt_of_lt_of_le (by have := World.block_lt_of_cell? _ _ hw291_0; first | rwa [add_block] at this | exact this) GW288.out)) | (show (Addr.add _ _).block ≠ _; rw [add_block]; exact Nat.ne_of_lt (Nat.lt_of_lt_of_le (by have := World.block_lt_of_cell? _ _ hw291_0; first | rwa [add_block] at this | exact this) GW288.out)) | (dsimp only; exact Nat.ne_of_lt (Nat.lt_of_lt_of_le (by have := World.block_lt_of_cell? _ _ hw291_0; first | rwa [add_block] at this | exact this) GW288.out))) _).trans (((cell_far (p := ⟨gb288, _, none⟩) (by first | exact Nat.ne_of_lt (Nat.lt_of_lt_of_le (by have := World.block_lt_of_cell? _ _ hw291_0; first | rwa [add_block] at this | exact this) GW288.out) | (rw [add_block]; exact Nat.ne_of_lt (Nat.lt_of_lt_of_le (by have := World.block_lt_of_cell? _ _ hw291_0; first | rwa [add_block] at this | exact this) GW288.out)) | (show (Addr.add _ _).block ≠ _; rw [add_block]; exact Nat.ne_of_lt (Nat.lt_of_lt_of_le (by have := World.block_lt_of_cell? _ _ hw291_0; first | rwa [add_block] at this | exact this) GW288.out)) | (dsimp only; exact Nat.ne_of_lt (Nat.lt_of_lt_of_le (by have := World.block_lt_of_cell? _ _ hw291_0; first | rwa [add_block] at this | exact this) GW288.out))) _).trans (hHeld.2.2))))))⟩ (fun hHeld => ?_)
                                     clear hK K
                                     refine done_ (done_of HT_.out (by kernel_rfl)) ?_
                                     obtain ⟨i050, hi050, _, hsz50, _⟩ := info_parts info5
                                     obtain ⟨A50, hcut50, hA50, hC50⟩ := print_mid_of (P := Tryd.prog) (Value.int .u8) 0 29 5 .i64 .i64 Tryd.underlying29 hi050 hsz50 (some ad283) c0 l0 8 12 (by omega) (by first | omega | exact of_decide_eq_true (by first | (with_reducible assumption) | assumption)) (of_decide_eq_true (by first | (with_reducible assumption) | assumption)) HC0.out
                                     have HR292 := Aside0.mk (Kd.C_of_reads (h1 := fun _ => rfl) (hA50 _ (Kd.reads_of_C HR0.out)))
                                     have HC292 := Aside0.mk hC50
                                     clear hA50 hC50 hi050 hsz50
                                     try go_wp2_with (first | ((with_reducible refine gate_callee (f := 27) rfl ?_); refine goesL_ (some 64) rfl rfl Tryd.func27 (by kernel_rfl) rfl #[.slice A50 ((l0.take 12).drop 8).length (c0 - 8)] rfl (by (try simp only [List.map_toArray, List.map_cons, List.map_nil]); first | done | (rw [show ((l0.take 12).drop 8).length = (12 - 8) from (by rw [List.length_drop, List.length_take]; have h_ : (12 : Int) ≤ (l0.length : Int) := of_decide_eq_true (by first | (with_reducible assumption) | assumption); omega)] <;> rfl) | rfl | (simp only [List.length_drop, List.length_take]; rfl)) ?_; (with_reducible refine (keepsakeref04_Number.calls kj4 _ _ ((l0.take 12).drop 8) t293 _ ?side1 ?side2 A29.out).mono ?_); (case side1 => exact Kd.C_below HR292.out (by repeat (first | (with_reducible first | exact HB.out | apply below_alloc | apply pw_below_drewN | apply below_drew1 | refine below_set ?_ GE278.out | refine below_set ?_ GE288.out) | exact HB.out))); (case side2 => exact HC292.out); rintro e w' ⟨rfl, ⟨nd, rfl⟩⟩; refine ⟨_, rfl, ?_⟩; have hcz51_0 : w46.cell? ⟨gb288, 0, none⟩ = some (.int .i64 0) := (blk_cell BK288.out 0).trans rfl; have hcz51_1 : w46.cell? ⟨gb288, 1, none⟩ = some (.int .i64 0) := (blk_cell BK288.out 1).trans rfl; have hcz51_2 : w46.cell? ⟨gb288, 2, none⟩ = some (.int .i64 0) := (blk_cell BK288.out 2).trans rfl; have hcz51_3 : w46.cell? ⟨gb288, 3, none⟩ = some (.int .i64 0) := (blk_cell BK288.out 3).trans rfl; have hcz51_4 : w46.cell? ⟨gb288, 4, none⟩ = some (.int .u64 0) := (blk_cell BK288.out 4).trans rfl; have hcz51_5 : w46.cell? ⟨gb288, 5, none⟩ = some (.int .u32 0) := (blk_cell BK288.out 5).trans rfl; have hfz51_0 := blk_frozen BK288.out 0; have hfz51_1 := blk_frozen BK288.out 1; have hfz51_2 := blk_frozen BK288.out 2; have hfz51_3 := blk_frozen BK288.out 3; have hfz51_4 := blk_frozen BK288.out 4; have hfz51_5 := blk_frozen BK288.out 5; obtain ⟨i052, hi052, _, hsz52, _⟩ := info_parts info5; obtain ⟨A52, hcut52, hA52, hC52⟩ := print_mid_of (P := Tryd.prog) (Value.int .u8) 0 29 5 .i64 .i64 Tryd.underlying29 hi052 hsz52 (some ad283) c0 l0 12 20 (by omega) (by first | omega | exact of_decide_eq_true (by first | (with_reducible assumption) | assumption)) (of_decide_eq_true (by first | (with_reducible assumption) | assumption)) HC0.out; have HR294 := Aside0.mk (Kd.C_of_reads (h1 := fun _ => rfl) (hA52 _ (Kd.reads_of_C HR0.out))); have HC294 := Aside0.mk hC52; clear hA52 hC52 hi052 hsz52) | ((with_reducible refine gate_callee (f := 27) rfl ?_); refine goesL_ (some 69) rfl rfl Tryd.func27 (by kernel_rfl) rfl #[.slice A52 ((l0.take 20).drop 12).length (c0 - 12)] rfl (by (try simp only [List.map_toArray, List.map_cons, List.map_nil]); first | done | (rw [show ((l0.take 20).drop 12).length = (20 - 12) from (by rw [List.length_drop, List.length_take]; have h_ : (20 : Int) ≤ (l0.length : Int) := of_decide_eq_true (by first | (with_reducible assumption) | assumption); omega)] <;> rfl) | rfl | (simp only [List.length_drop, List.length_take]; rfl)) ?_; (with_reducible refine (keepsakeref04_Number.calls kj4 _ _ ((l0.take 20).drop 12) t295 _ ?side1 ?side2 A32.out).mono ?_); (case side1 => exact Kd.C_below HR294.out (by repeat (first | (with_reducible first | exact HB.out | apply below_alloc | apply pw_below_drewN | apply below_drew1 | refine below_set ?_ GE278.out | refine below_set ?_ GE288.out) | exact HB.out))); (case side2 => exact HC294.out); rintro e w' ⟨rfl, ⟨nd, rfl⟩⟩; refine ⟨_, rfl, ?_⟩; obtain ⟨i053, hi053, _, hsz53, _⟩ := info_parts info5; obtain ⟨A53, hcut53, hA53, hC53⟩ := print_mid_of (P := Tryd.prog) (Value.int .u8) 0 29 5 .i64 .i64 Tryd.underlying29 hi053 hsz53 (some ad283) c0 l0 20 24 (by omega) (by first | omega | exact of_decide_eq_true (by first | (with_reducible assumption) | assumption)) (of_decide_eq_true (by first | (with_reducible assumption) | assumption)) HC0.out; have HR296 := Aside0.mk (Kd.C_of_reads (h1 := fun _ => rfl) (hA53 _ (Kd.reads_of_C HR0.out))); have HC296 := Aside0.mk hC53; clear hA53 hC53 hi053 hsz53) | ((with_reducible refine gate_callee (f := 27) rfl ?_); refine goesL_ (some 73) rfl rfl Tryd.func27 (by kernel_rfl) rfl #[.slice A53 ((l0.take 24).drop 20).length (c0 - 20)] rfl (by (try simp only [List.map_toArray, List.map_cons, List.map_nil]); first | done | (rw [show ((l0.take 24).drop 20).length = (24 - 20) from (by rw [List.length_drop, List.length_take]; have h_ : (24 : Int) ≤ (l0.length : Int) := of_decide_eq_true (by first | (with_reducible assumption) | assumption); omega)] <;> rfl) | rfl | (simp only [List.length_drop, List.length_take]; rfl)) ?_; (with_reducible refine (keepsakeref04_Number.calls kj4 _ _ ((l0.take 24).drop 20) t297 _ ?side1 ?side2 A35.out).mono ?_); (case side1 => exact Kd.C_below HR296.out (by repeat (first | (with_reducible first | exact HB.out | apply below_alloc | apply pw_below_drewN | apply below_drew1 | refine below_set ?_ GE278.out | refine below_set ?_ GE288.out) | exact HB.out))); (case side2 => exact HC296.out); rintro e w' ⟨rfl, ⟨nd, rfl⟩⟩; refine ⟨_, rfl, ?_⟩) | ((with_reducible refine gate_callee (f := 23) rfl ?_); refine goesL_ (some 77) rfl rfl Tryd.func23 (by kernel_rfl) rfl #[.agg #[.int .i64 (wrap64 (rd l0 5)), .int .i64 (wrap64 (rd l0 6)), .int .i64 (wrap64 (rd l0 7)), .int .i64 (wrap64 (t293)), .int .u64 t295, .int .u32 ((t297) % 4294967296)]] rfl (by (try simp only [List.map_toArray, List.map_cons, List.map_nil]); first | done | rfl | (simp only [List.length_drop, List.length_take]; rfl)) ?_; (with_reducible refine (keepsakeref04_can.calls (wrap64 (rd l0 5)) (wrap64 (rd l0 6)) (wrap64 (rd l0 7)) (wrap64 (t293)) t295 ((t297) % 4294967296) true _ A36.out).mono ?_); rintro e w54 ⟨rfl, hb⟩; refine ⟨_, rfl, ?_⟩; have n0_ := Aside0.mk (blk_below (g := gb278) (o := .cells #[.int .i64 0, .int .i64 0, .int .i64 0, .int .i64 0, .int .u64 0, .int .u32 0] 27 (0, 0)) (by (with_reducible repeat (first | refine blk_drewN ?_ _ | refine blk_drew ?_ | refine blk_alloc ?_ _)); refine blk_far ?_ NB278_288.out _; (with_reducible repeat (first | refine blk_drewN ?_ _ | refine blk_drew ?_ | refine blk_alloc ?_ _)); refine blk_far ?_ NB278_288.out _; (with_reducible repeat (first | refine blk_drewN ?_ _ | refine blk_drew ?_ | refine blk_alloc ?_ _)); refine blk_far ?_ NB278_288.out _; (with_reducible repeat (first | refine blk_drewN ?_ _ | refine blk_drew ?_ | refine blk_alloc ?_ _)); refine blk_far ?_ NB278_288.out _; (with_reducible repeat (first | refine blk_drewN ?_ _ | refine blk_drew ?_ | refine blk_alloc ?_ _)); refine blk_far ?_ NB278_288.out _; (with_reducible repeat (first | refine blk_drewN ?_ _ | refine blk_drew ?_ | refine blk_alloc ?_ _)); refine blk_far ?_ NB278_288.out _; (with_reducible repeat (first | refine blk_drewN ?_ _ | refine blk_drew ?_ | refine blk_alloc ?_ _)); exact BK278.out) hb); have n1_ := Aside0.mk (blk_below (g := gb288) (o := .cells #[.int .i64 (wrap64 (rd l0 5)), .int .i64 (wrap64 (rd l0 6)), .int .i64 (wrap64 (rd l0 7)), .int .i64 (wrap64 (t293)), .int .u64 t295, .int .u32 ((t297) % 4294967296)] 27 (0, 0)) (by (with_reducible repeat (first | refine blk_drewN ?_ _ | refine blk_drew ?_ | refine blk_alloc ?_ _)); refine blk_put (cs := #[.int .i64 (wrap64 (rd l0 5)), .int .i64 (wrap64 (rd l0 6)), .int .i64 (wrap64 (rd l0 7)), .int .i64 (wrap64 (t293)), .int .u64 t295, .int .u32 0]) ?_ 5 _ rfl; (with_reducible repeat (first | refine blk_drewN ?_ _ | refine blk_drew ?_ | refine blk_alloc ?_ _)); refine blk_put (cs := #[.int .i64 (wrap64 (rd l0 5)), .int .i64 (wrap64 (rd l0 6)), .int .i64 (wrap64 (rd l0 7)), .int .i64 (wrap64 (t293)), .int .u64 0, .int .u32 0]) ?_ 4 _ rfl; (with_reducible repeat (first | refine blk_drewN ?_ _ | refine blk_drew ?_ | refine blk_alloc ?_ _)); refine blk_put (cs := #[.int .i64 (wrap64 (rd l0 5)), .int .i64 (wrap64 (rd l0 6)), .int .i64 (wrap64 (rd l0 7)), .int .i64 0, .int .u64 0, .int .u32 0]) ?_ 3 _ rfl; (with_reducible repeat (first | refine blk_drewN ?_ _ | refine blk_drew ?_ | refine blk_alloc ?_ _)); refine blk_put (cs := #[.int .i64 (wrap64 (rd l0 5)), .int .i64 (wrap64 (rd l0 6)), .int .i64 0, .int .i64 0, .int .u64 0, .int .u32 0]) ?_ 2 _ rfl; (with_reducible repeat (first | refine blk_drewN ?_ _ | refine blk_drew ?_ | refine blk_alloc ?_ _)); refine blk_put (cs := #[.int .i64 (wrap64 (rd l0 5)), .int .i64 0, .int .i64 0, .int .i64 0, .int .u64 0, .int .u32 0]) ?_ 1 _ rfl; (with_reducible repeat (first | refine blk_drewN ?_ _ | refine blk_drew ?_ | refine blk_alloc ?_ _)); refine blk_put (cs := #[.int .i64 0, .int .i64 0, .int .i64 0, .int .i64 0, .int .u64 0, .int .u32 0]) ?_ 0 _ rfl; (with_reducible repeat (first | refine blk_drewN ?_ _ | refine blk_drew ?_ | refine blk_alloc ?_ _)); exact BK288.out) hb); have n2_ := Aside0.mk (below_step (by repeat (first | (with_reducible first | exact HB.out | apply below_alloc | apply pw_below_drewN | apply below_drew1 | refine below_set ?_ GE278.out | refine below_set ?_ GE288.out) | exact HB.out)) hb); clear BK278; clear BK288; clear HB; have BK278 := n0_; have BK288 := n1_; have HB := n2_; clear n0_ n1_ n2_; (try clear hb); (try clear hb2); (try clear hk); (try clear hi); have hcz55_0 : w54.cell? ⟨gb288, 0, none⟩ = some (.int .i64 (wrap64 (rd l0 5))) := (blk_cell BK288.out 0).trans rfl; have hcz55_1 : w54.cell? ⟨gb288, 1, none⟩ = some (.int .i64 (wrap64 (rd l0 6))) := (blk_cell BK288.out 1).trans rfl; have hcz55_2 : w54.cell? ⟨gb288, 2, none⟩ = some (.int .i64 (wrap64 (rd l0 7))) := (blk_cell BK288.out 2).trans rfl; have hcz55_3 : w54.cell? ⟨gb288, 3, none⟩ = some (.int .i64 (wrap64 (t293))) := (blk_cell BK288.out 3).trans rfl; have hcz55_4 : w54.cell? ⟨gb288, 4, none⟩ = some (.int .u64 t295) := (blk_cell BK288.out 4).trans rfl; have hcz55_5 : w54.cell? ⟨gb288, 5, none⟩ = some (.int .u32 ((t297) % 4294967296)) := (blk_cell BK288.out 5).trans rfl; have hfz55_0 := blk_frozen BK288.out 0; have hfz55_1 := blk_frozen BK288.out 1; have hfz55_2 := blk_frozen BK288.out 2; have hfz55_3 := blk_frozen BK288.out 3; have hfz55_4 := blk_frozen BK288.out 4; have hfz55_5 := blk_frozen BK288.out 5; have hcz56_0 : w54.cell? ⟨gb278, 0, none⟩ = some (.int .i64 0) := (blk_cell BK278.out 0).trans rfl; have hcz56_1 : w54.cell? ⟨gb278, 1, none⟩ = some (.int .i64 0) := (blk_cell BK278.out 1).trans rfl; have hcz56_2 : w54.cell? ⟨gb278, 2, none⟩ = some (.int .i64 0) := (blk_cell BK278.out 2).trans rfl; have hcz56_3 : w54.cell? ⟨gb278, 3, none⟩ = some (.int .i64 0) := (blk_cell BK278.out 3).trans rfl; have hcz56_4 : w54.cell? ⟨gb278, 4, none⟩ = some (.int .u64 0) := (blk_cell BK278.out 4).trans rfl; have hcz56_5 : w54.cell? ⟨gb278, 5, none⟩ = some (.int .u32 0) := (blk_cell BK278.out 5).trans rfl; have hfz56_0 := blk_frozen BK278.out 0; have hfz56_1 := blk_frozen BK278.out 1; have hfz56_2 := blk_frozen BK278.out 2; have hfz56_3 := blk_frozen BK278.out 3; have hfz56_4 := blk_frozen BK278.out 4; have hfz56_5 := blk_frozen BK278.out 5))
                                     refine bodyPost_ret (results_ct rfl _ _ gb278 27 #[.int .i64 (wrap64 (rd l0 5)), .int .i64 (wrap64 (rd l0 6)), .int .i64 (wrap64 (rd l0 7)), .int .i64 (wrap64 (t293)), .int .u64 t295, .int .u32 ((t297) % 4294967296)] (0, 0) _ rfl (by (with_reducible repeat (first | refine blk_drewN ?_ _ | refine blk_drew ?_ | refine blk_alloc ?_ _)); refine blk_put (cs := #[.int .i64 (wrap64 (rd l0 5)), .int .i64 (wrap64 (rd l0 6)), .int .i64 (wrap64 (rd l0 7)), .int .i64 (wrap64 (t293)), .int .u64 t295, .int .u32 0]) ?_ 5 _ rfl; (with_reducible repeat (first | refine blk_drewN ?_ _ | refine blk_drew ?_ | refine blk_alloc ?_ _)); refine blk_put (cs := #[.int .i64 (wrap64 (rd l0 5)), .int .i64 (wrap64 (rd l0 6)), .int .i64 (wrap64 (rd l0 7)), .int .i64 (wrap64 (t293)), .int .u64 0, .int .u32 0]) ?_ 4 _ rfl; (with_reducible repeat (first | refine blk_drewN ?_ _ | refine blk_drew ?_ | refine blk_alloc ?_ _)); refine blk_put (cs := #[.int .i64 (wrap64 (rd l0 5)), .int .i64 (wrap64 (rd l0 6)), .int .i64 (wrap64 (rd l0 7)), .int .i64 0, .int .u64 0, .int .u32 0]) ?_ 3 _ rfl; (with_reducible repeat (first | refine blk_drewN ?_ _ | refine blk_drew ?_ | refine blk_alloc ?_ _)); refine blk_put (cs := #[.int .i64 (wrap64 (rd l0 5)), .int .i64 (wrap64 (rd l0 6)), .int .i64 0, .int .i64 0, .int .u64 0, .int .u32 0]) ?_ 2 _ rfl; (with_reducible repeat (first | refine blk_drewN ?_ _ | refine blk_drew ?_ | refine blk_alloc ?_ _)); refine blk_put (cs := #[.int .i64 (wrap64 (rd l0 5)), .int .i64 0, .int .i64 0, .int .i64 0, .int .u64 0, .int .u32 0]) ?_ 1 _ rfl; (with_reducible repeat (first | refine blk_drewN ?_ _ | refine blk_drew ?_ | refine blk_alloc ?_ _)); refine blk_put (cs := #[.int .i64 0, .int .i64 0, .int .i64 0, .int .i64 0, .int .u64 0, .int .u32 0]) ?_ 0 _ rfl; (with_reducible repeat (first | refine blk_drewN ?_ _ | refine blk_drew ?_ | refine blk_alloc ?_ _)); exact BK278.out) Tryd.underlying27 rfl (by kernel_rfl)) rfl ?_
                                     exact ⟨by first | rfl | (simp [errW_none, errW_some] <;> rfl) | (simp [*, errW_none, errW_some] <;> rfl), by repeat (first | (with_reducible first | exact HB.out | apply below_alloc | apply pw_below_drewN | apply below_drew1 | refine below_set ?_ GE278.out | refine below_set ?_ GE288.out) | exact HB.out)⟩
                                   · replace c37 := Bool.eq_false_iff.mpr c37
                                     subst c37
                                     have H1 : (some (0, 0, 0, 0, 0, 0, 9)) = some (r1, r2, r3, r4, r5, r6, r7) := by rw [if_neg (show ¬ (false = true) by decide)] at H; exact H
                                     clear H
                                     have H := H1
                                     clear H1
                                     simp only [Option.some.injEq, Prod.mk.injEq] at H
                                     obtain ⟨rfl, rfl, rfl, rfl, rfl, rfl, rfl⟩ := H
                                     have p283 : 0 ≤ (4 : Int) := (by omega)
                                     have q283 : 4 < (l0.length : Int) := of_decide_eq_true (by first | (with_reducible assumption) | assumption)
                                     obtain ⟨ad283, e283, hx283_0⟩ := Kd.at_int HR0.out 4 p283 q283
                                     cases e283
                                     (try simp only [show (4 : Int).toNat = 4 from rfl, Nat.reduceMul, Nat.reduceEqDiff, Go.Addr.add, ↓reduceIte] at hx283_0)
                                     have qi283 : (4 < l0.length) = True := eq_true (by omega)
                                     (try rw [show ((4 : Int)).toNat = 4 from rfl] at hx283_0)
                                     replace hx283_0 := (HB.out.cell (World.block_lt_of_cell? w _ hx283_0)).trans hx283_0
                                     replace p283 := eq_true p283
                                     replace q283 := eq_true q283
                                     try go_wp2
                                     have n0_ := Aside0.mk (blk_drew BK278.out)
                                     have n1_ := Aside0.mk (below_drew1 HB.out)
                                     clear BK278
                                     clear HB
                                     have BK278 := n0_
                                     have HB := n1_
                                     clear n0_ n1_
                                     obtain ⟨i058, hi058, _, hsz58, _⟩ := info_parts info5
                                     obtain ⟨A58, hcut58, hA58, hC58⟩ := print_mid_of (P := Tryd.prog) (Value.int .u8) 0 29 5 .i64 .i64 Tryd.underlying29 hi058 hsz58 (some ad283) c0 l0 24 28 (by omega) (by first | omega | exact of_decide_eq_true (by first | (with_reducible assumption) | assumption)) (of_decide_eq_true (by first | (with_reducible assumption) | assumption)) HC0.out
                                     have HR284 := Aside0.mk (Kd.C_of_reads (h1 := fun _ => rfl) (hA58 _ (Kd.reads_of_C HR0.out)))
                                     have HC284 := Aside0.mk hC58
                                     clear hA58 hC58 hi058 hsz58
                                     obtain ⟨i059, hi059, _, hsz59, _⟩ := info_parts info5
                                     obtain ⟨hcut59, hA59, hC59⟩ := print_take_of (P := Tryd.prog) (Value.int .u8) 0 29 5 .i64 Tryd.underlying29 hi059 hsz59 (some ad283) c0 l0 24 (by omega) (of_decide_eq_true (by first | (with_reducible assumption) | assumption)) HC0.out
                                     have HR286 := Aside0.mk (Kd.C_of_reads (h1 := fun _ => rfl) (hA59 _ (Kd.reads_of_C HR0.out)))
                                     have HC286 := Aside0.mk hC59
                                     clear hA59 hC59 hi059 hsz59
                                     refine start_ (n := 8) (S := fun w' => True) (ds := []) #[false, false, false, false, false, false, false, false] (by kernel_rfl) rfl rfl trivial (fun hHeld => ?_); refine with_tabW keepsakeref04_Decode.tab7 keepsakeref04_Decode.bits7 (fun HT_ HW_ => ?_)
                                     generalize wc.drew = w57 at BK278 HB HR284 HR286 hHeld ⊢
                                     refine pure_ (i := 0) (N := some 38) (v := ?_) (a' := ?_) #[true, false, false, false, false, false, false, false] rfl rfl (any_of HT_.out (by kernel_rfl)) (fun _ _ _ h => h) (Or.inl ⟨by rfl, ?_⟩) ?_ ?_
                                     rotate_left
                                     · intro w'
                                       go_simp
                                       with_reducible rfl
                                     rotate_left
                                     · simp only [Act.put, List.setIfInBounds_toArray, List.set_cons_zero, List.set_cons_succ, i64_w, i32_w]
                                       rfl
                                     refine pure_ (i := 1) (N := some 39) (v := ?_) (a' := ?_) #[true, true, false, false, false, false, false, false] rfl rfl (any_of HT_.out (by kernel_rfl)) (fun _ _ _ h => h) (Or.inl ⟨by rfl, ?_⟩) ?_ ?_
                                     rotate_left
                                     · intro w'
                                       go_simp
                                       with_reducible rfl
                                     rotate_left
                                     · simp only [Act.put, List.setIfInBounds_toArray, List.set_cons_zero, List.set_cons_succ, i64_w, i32_w]
                                       rfl
                                     refine pure_ (i := 3) (N := some 41) (v := ?_) (a' := ?_) #[true, true, false, true, false, false, false, false] rfl rfl (any_of HT_.out (by kernel_rfl)) (fun _ _ _ h => h) (Or.inl ⟨by rfl, ?_⟩) ?_ ?_
                                     rotate_left
                                     · intro w'
                                       go_simp
                                       with_reducible rfl
                                     rotate_left
                                     · simp only [Act.put, List.setIfInBounds_toArray, List.set_cons_zero, List.set_cons_succ, i64_w, i32_w]
                                       rfl
                                     refine pure_ (i := 4) (N := some 42) (v := ?_) (a' := ?_) #[true, true, false, true, true, false, false, false] rfl rfl (any_of HT_.out (by kernel_rfl)) (fun _ _ _ h => h) (Or.inl ⟨by rfl, ?_⟩) ?_ ?_
                                     rotate_left
                                     · intro w'
                                       go_simp
                                       with_reducible rfl
                                     rotate_left
                                     · simp only [Act.put, List.setIfInBounds_toArray, List.set_cons_zero, List.set_cons_succ, i64_w, i32_w]
                                       rfl
                                     refine one_ (i := 2) (N := some 40) #[true, true, true, true, true, false, false, false] rfl rfl (one_of HT_.out (by kernel_rfl)) (by decide) (fun K hK => ?_)
                                     refine goes_ Tryd.func27 (by kernel_rfl) rfl #[.slice A58 ((l0.take 28).drop 24).length (c0 - 24)] (by rfl) rfl rfl (by (try simp only [List.map_toArray, List.map_cons, List.map_nil]); first | done | (rw [show ((l0.take 28).drop 24).length = (28 - 24) from (by rw [List.length_drop, List.length_take]; have h_ : (28 : Int) ≤ (l0.length : Int) := of_decide_eq_true (by first | (with_reducible assumption) | assumption); omega)] <;> rfl) | rfl | (simp only [List.length_drop, List.length_take]; rfl)) ?_
                                     with_reducible refine (keepsakeref04_Number.calls kj4 _ _ ((l0.take 28).drop 24) t285 _ ?side1 ?side2 A20.out).mono ?_
                                     (case side1 => repeat (first | exact (Kd.C_below HR284.out HB.out) | (with_reducible refine Kd.C_alloc ?_ _) | (with_reducible refine Kd.C_drewN ?_ _) | (with_reducible refine Kd.C_drew ?_)))
                                     (case side2 => exact HC284.out)
                                     rintro e w' ⟨rfl, ⟨nd, rfl⟩⟩
                                     refine ⟨_, rfl, ?_⟩
                                     refine hK.out _ _ trivial (fun hHeld => ?_)
                                     clear hK K
                                     refine norm_ (a' := ?_) ?_ ?_
                                     rotate_left
                                     · show Act.put _ (some 40) _ = _
                                       simp only [Act.put, List.setIfInBounds_toArray, List.set_cons_zero, List.set_cons_succ, i64_w, i32_w]
                                       rfl
                                     refine one_ (i := 5) (N := some 43) #[true, true, true, true, true, true, false, false] rfl rfl (one_of HT_.out (by kernel_rfl)) (by decide) (fun K hK => ?_)
                                     refine goes_ Tryd.func24 (by kernel_rfl) rfl #[.slice (some ad283) (l0.take 24).length c0] (by rfl) rfl rfl (by (try simp only [List.map_toArray, List.map_cons, List.map_nil]); first | done | (rw [show (l0.take 24).length = 24 from (by rw [List.length_take]; have h_ : (24 : Int) ≤ (l0.length : Int) := of_decide_eq_true (by first | (with_reducible assumption) | assumption); omega)] <;> rfl) | rfl | (simp only [List.length_drop, List.length_take]; rfl)) ?_
                                     with_reducible refine (keepsakeref01_Sum.calls kj4 _ _ (l0.take 24) t287 _ ?side1 ?side2 A22.out).mono ?_
                                     (case side1 => repeat (first | exact (Kd.C_below HR286.out (by repeat (first | (with_reducible first | exact HB.out | apply below_alloc | apply pw_below_drewN | apply below_drew1 | refine below_set ?_ GE278.out) | exact HB.out))) | (with_reducible refine Kd.C_alloc ?_ _) | (with_reducible refine Kd.C_drewN ?_ _) | (with_reducible refine Kd.C_drew ?_)))
                                     (case side2 => exact HC286.out)
                                     rintro e w60 ⟨rfl, hb⟩
                                     refine ⟨_, rfl, ?_⟩
                                     have n0_ := Aside0.mk (blk_below (g := gb278) (o := .cells #[.int .i64 0, .int .i64 0, .int .i64 0, .int .i64 0, .int .u64 0, .int .u32 0] 27 (0, 0)) (by (with_reducible repeat (first | refine blk_drewN ?_ _ | refine blk_drew ?_ | refine blk_alloc ?_ _)); exact BK278.out) hb)
                                     have n1_ := Aside0.mk (below_step (by repeat (first | (with_reducible first | exact HB.out | apply below_alloc | apply pw_below_drewN | apply below_drew1 | refine below_set ?_ GE278.out) | exact HB.out)) hb)
                                     clear BK278
                                     clear HB
                                     have BK278 := n0_
                                     have HB := n1_
                                     clear n0_ n1_
                                     (try clear hb)
                                     (try clear hb2)
                                     (try clear hk)
                                     (try clear hi)
                                     refine hK.out _ _ trivial (fun hHeld => ?_)
                                     clear hK K
                                     refine norm_ (a' := ?_) ?_ ?_
                                     rotate_left
                                     · show Act.put _ (some 43) _ = _
                                       simp only [Act.put, List.setIfInBounds_toArray, List.set_cons_zero, List.set_cons_succ, i64_w, i32_w]
                                       rfl
                                     refine pure_ (i := 6) (N := some 44) (v := ?_) (a' := ?_) #[true, true, true, true, true, true, true, false] rfl rfl (any_of HT_.out (by kernel_rfl)) (fun _ _ _ h => h) (Or.inl ⟨by rfl, ?_⟩) ?_ ?_
                                     rotate_left
                                     · intro w'
                                       go_simp
                                       with_reducible rfl
                                     rotate_left
                                     · simp only [Act.put, List.setIfInBounds_toArray, List.set_cons_zero, List.set_cons_succ, i64_w, i32_w]
                                       rfl
                                     refine pure_ (i := 7) (N := some 45) (v := ?_) (a' := ?_) #[true, true, true, true, true, true, true, true] rfl rfl (any_of HT_.out (by kernel_rfl)) (fun _ _ _ h => h) (Or.inl ⟨by rfl, ?_⟩) ?_ ?_
                                     rotate_left
                                     · intro w'
                                       go_simp
                                       with_reducible rfl
                                     rotate_left
                                     · simp only [Act.put, List.setIfInBounds_toArray, List.set_cons_zero, List.set_cons_succ, i64_w, i32_w]
                                       rfl
                                     refine done_ (done_of HT_.out (by kernel_rfl)) ?_
                                     try go_wp2_with (first | ((with_reducible refine gate_dst (N := 4) rfl ?_); refine box_event ?hg (N := 4) ?hd (cs := #[.int .i64 0, .int .i64 0, .int .i64 0, .int .i64 0, .int .u64 0, .int .u32 0]) (t := 27) ?hr ?_; (case hd => rfl); (case hg => rfl); (case hr => first | (go_simp; done) | (go_simp; rfl)); intro gb288 hg w61 hbox hb; have n0_ := Aside0.mk (blk_below (g := gb278) (o := .cells #[.int .i64 0, .int .i64 0, .int .i64 0, .int .i64 0, .int .u64 0, .int .u32 0] 27 (0, 0)) (by (with_reducible repeat (first | refine blk_drewN ?_ _ | refine blk_drew ?_ | refine blk_alloc ?_ _)); exact BK278.out) hb); have n1_ := Aside0.mk (below_step (by repeat (first | (with_reducible first | exact HB.out | apply below_alloc | apply pw_below_drewN | apply below_drew1 | refine below_set ?_ GE278.out) | exact HB.out)) hb); have n2_ := Aside0.mk (hbox); have n3_ := Aside0.mk ((by rw [hg]; exact (below_size (by repeat (first | (with_reducible first | exact HB.out | apply below_alloc | apply pw_below_drewN | apply below_drew1 | refine below_set ?_ GE278.out) | exact HB.out))) : w.heap.size ≤ gb288)); have n4_ := Aside0.mk ((by rw [hg]; exact (below_size (by repeat (first | (with_reducible first | exact HB.out | apply below_alloc | apply pw_below_drewN | apply below_drew1 | refine below_set ?_ GE278.out) | exact HB.out))) : w.heap.size ≤ gb288)); have n5_ := Aside0.mk ((by rw [hg]; exact Nat.ne_of_lt (blk_lt (g := gb278) (o := .cells #[.int .i64 0, .int .i64 0, .int .i64 0, .int .i64 0, .int .u64 0, .int .u32 0] 27 (0, 0)) (by (with_reducible repeat (first | refine blk_drewN ?_ _ | refine blk_drew ?_ | refine blk_alloc ?_ _)); exact BK278.out)) : gb278 ≠ gb288)); have n6_ := Aside0.mk ((by rw [hg]; exact Nat.ne_of_gt (blk_lt (g := gb278) (o := .cells #[.int .i64 0, .int .i64 0, .int .i64 0, .int .i64 0, .int .u64 0, .int .u32 0] 27 (0, 0)) (by (with_reducible repeat (first | refine blk_drewN ?_ _ | refine blk_drew ?_ | refine blk_alloc ?_ _)); exact BK278.out)) : gb288 ≠ gb278)); clear BK278; clear HB; have BK278 := n0_; have HB := n1_; have BK288 := n2_; have GW288 := n3_; have GE288 := n4_; have NB278_288 := n5_; have NB288_278 := n6_; clear n0_ n1_ n2_ n3_ n4_ n5_ n6_; clear hb hbox hg; have hnb62 := NB288_278.out; have hnc62 := NB278_288.out; have hcz63_0 : w61.cell? ⟨gb288, 0, none⟩ = some (.int .i64 0) := (blk_cell BK288.out 0).trans rfl; have hcz63_1 : w61.cell? ⟨gb288, 1, none⟩ = some (.int .i64 0) := (blk_cell BK288.out 1).trans rfl; have hcz63_2 : w61.cell? ⟨gb288, 2, none⟩ = some (.int .i64 0) := (blk_cell BK288.out 2).trans rfl; have hcz63_3 : w61.cell? ⟨gb288, 3, none⟩ = some (.int .i64 0) := (blk_cell BK288.out 3).trans rfl; have hcz63_4 : w61.cell? ⟨gb288, 4, none⟩ = some (.int .u64 0) := (blk_cell BK288.out 4).trans rfl; have hcz63_5 : w61.cell? ⟨gb288, 5, none⟩ = some (.int .u32 0) := (blk_cell BK288.out 5).trans rfl; have hfz63_0 := blk_frozen BK288.out 0; have hfz63_1 := blk_frozen BK288.out 1; have hfz63_2 := blk_frozen BK288.out 2; have hfz63_3 := blk_frozen BK288.out 3; have hfz63_4 := blk_frozen BK288.out 4; have hfz63_5 := blk_frozen BK288.out 5))
                                     have n0_ : Aside0 (((((((w61.setCell ⟨gb288, 0, none⟩ (.int .i64 0)).setCell ⟨gb288, 1, none⟩ (.int .i64 0)).setCell ⟨gb288, 2, none⟩ (.int .i64 0)).setCell ⟨gb288, 3, none⟩ (.int .i64 0)).setCell ⟨gb288, 4, none⟩ (.int .u64 0)).setCell ⟨gb288, 5, none⟩ (.int .u32 0)).heap[gb278]? = some (.cells #[.int .i64 0, .int .i64 0, .int .i64 0, .int .i64 0, .int .u64 0, .int .u32 0] 27 (0, 0))) := ⟨by (with_reducible repeat (first | refine blk_drewN ?_ _ | refine blk_drew ?_ | refine blk_alloc ?_ _)); refine blk_far ?_ NB278_288.out _; (with_reducible repeat (first | refine blk_drewN ?_ _ | refine blk_drew ?_ | refine blk_alloc ?_ _)); refine blk_far ?_ NB278_288.out _; (with_reducible repeat (first | refine blk_drewN ?_ _ | refine blk_drew ?_ | refine blk_alloc ?_ _)); refine blk_far ?_ NB278_288.out _; (with_reducible repeat (first | refine blk_drewN ?_ _ | refine blk_drew ?_ | refine blk_alloc ?_ _)); refine blk_far ?_ NB278_288.out _; (with_reducible repeat (first | refine blk_drewN ?_ _ | refine blk_drew ?_ | refine blk_alloc ?_ _)); refine blk_far ?_ NB278_288.out _; (with_reducible repeat (first | refine blk_drewN ?_ _ | refine blk_drew ?_ | refine blk_alloc ?_ _)); refine blk_far ?_ NB278_288.out _; (with_reducible repeat (first | refine blk_drewN ?_ _ | refine blk_drew ?_ | refine blk_alloc ?_ _)); exact BK278.out⟩
                                     have n1_ : Aside0 (((((((w61.setCell ⟨gb288, 0, none⟩ (.int .i64 0)).setCell ⟨gb288, 1, none⟩ (.int .i64 0)).setCell ⟨gb288, 2, none⟩ (.int .i64 0)).setCell ⟨gb288, 3, none⟩ (.int .i64 0)).setCell ⟨gb288, 4, none⟩ (.int .u64 0)).setCell ⟨gb288, 5, none⟩ (.int .u32 0)).heap[gb288]? = some (.cells #[.int .i64 0, .int .i64 0, .int .i64 0, .int .i64 0, .int .u64 0, .int .u32 0] 27 (0, 0))) := ⟨by (with_reducible repeat (first | refine blk_drewN ?_ _ | refine blk_drew ?_ | refine blk_alloc ?_ _)); refine blk_put (cs := #[.int .i64 0, .int .i64 0, .int .i64 0, .int .i64 0, .int .u64 0, .int .u32 0]) ?_ 5 _ rfl; (with_reducible repeat (first | refine blk_drewN ?_ _ | refine blk_drew ?_ | refine blk_alloc ?_ _)); refine blk_put (cs := #[.int .i64 0, .int .i64 0, .int .i64 0, .int .i64 0, .int .u64 0, .int .u32 0]) ?_ 4 _ rfl; (with_reducible repeat (first | refine blk_drewN ?_ _ | refine blk_drew ?_ | refine blk_alloc ?_ _)); refine blk_put (cs := #[.int .i64 0, .int .i64 0, .int .i64 0, .int .i64 0, .int .u64 0, .int .u32 0]) ?_ 3 _ rfl; (with_reducible repeat (first | refine blk_drewN ?_ _ | refine blk_drew ?_ | refine blk_alloc ?_ _)); refine blk_put (cs := #[.int .i64 0, .int .i64 0, .int .i64 0, .int .i64 0, .int .u64 0, .int .u32 0]) ?_ 2 _ rfl; (with_reducible repeat (first | refine blk_drewN ?_ _ | refine blk_drew ?_ | refine blk_alloc ?_ _)); refine blk_put (cs := #[.int .i64 0, .int .i64 0, .int .i64 0, .int .i64 0, .int .u64 0, .int .u32 0]) ?_ 1 _ rfl; (with_reducible repeat (first | refine blk_drewN ?_ _ | refine blk_drew ?_ | refine blk_alloc ?_ _)); refine blk_put (cs := #[.int .i64 0, .int .i64 0, .int .i64 0, .int .i64 0, .int .u64 0, .int .u32 0]) ?_ 0 _ rfl; (with_reducible repeat (first | refine blk_drewN ?_ _ | refine blk_drew ?_ | refine blk_alloc ?_ _)); exact BK288.out⟩
                                     have n2_ : Aside0 (Below w.heap.size w ((((((w61.setCell ⟨gb288, 0, none⟩ (.int .i64 0)).setCell ⟨gb288, 1, none⟩ (.int .i64 0)).setCell ⟨gb288, 2, none⟩ (.int .i64 0)).setCell ⟨gb288, 3, none⟩ (.int .i64 0)).setCell ⟨gb288, 4, none⟩ (.int .u64 0)).setCell ⟨gb288, 5, none⟩ (.int .u32 0))) := ⟨by repeat (first | (with_reducible first | exact HB.out | apply below_alloc | apply pw_below_drewN | apply below_drew1 | refine below_set ?_ GE278.out | refine below_set ?_ GE288.out) | exact HB.out)⟩
                                     (try clear BK278)
                                     (try clear BK288)
                                     (try clear HB)
                                     generalize ((((((w61.setCell ⟨gb288, 0, none⟩ (.int .i64 0)).setCell ⟨gb288, 1, none⟩ (.int .i64 0)).setCell ⟨gb288, 2, none⟩ (.int .i64 0)).setCell ⟨gb288, 3, none⟩ (.int .i64 0)).setCell ⟨gb288, 4, none⟩ (.int .u64 0)).setCell ⟨gb288, 5, none⟩ (.int .u32 0)) = w64 at n0_ n1_ n2_ ⊢
                                     have BK278 := n0_
                                     have BK288 := n1_
                                     have HB := n2_
                                     clear n0_ n1_ n2_
                                     have n0_ := Aside0.mk (blk_drew BK278.out)
                                     have n1_ := Aside0.mk (blk_drew BK288.out)
                                     have n2_ := Aside0.mk (below_drew1 HB.out)
                                     clear BK278
                                     clear BK288
                                     clear HB
                                     have BK278 := n0_
                                     have BK288 := n1_
                                     have HB := n2_
                                     clear n0_ n1_ n2_
                                     have p289 : 0 ≤ (5 : Int) := (by omega)
                                     have q289 : 5 < (l0.length : Int) := of_decide_eq_true (by first | (with_reducible assumption) | assumption)
                                     obtain ⟨ad289, e289, hx289_0⟩ := Kd.at_int HR0.out 5 p289 q289
                                     have hw289_0 := hx289_0
                                     (try rw [show ((5 : Int)).toNat = 5 from rfl] at hw289_0)
                                     (try rw [show 5 * 1 = 5 from rfl] at hw289_0)
                                     (try simp only [Nat.reduceMul, Nat.reduceEqDiff, Go.Addr.add, ↓reduceIte] at hw289_0)
                                     obtain rfl : ad283 = ad289 := (by injection e289)
                                     (try simp only [show (5 : Int).toNat = 5 from rfl, Nat.reduceMul, Nat.reduceEqDiff, Go.Addr.add, ↓reduceIte] at hx289_0)
                                     have qi289 : (5 < l0.length) = True := eq_true (by omega)
                                     (try rw [show ((5 : Int)).toNat = 5 from rfl] at hx289_0)
                                     replace hx289_0 := (HB.out.cell (World.block_lt_of_cell? w _ hx289_0)).trans hx289_0
                                     replace p289 := eq_true p289
                                     replace q289 := eq_true q289
                                     have p290 : 0 ≤ (6 : Int) := (by omega)
                                     have q290 : 6 < (l0.length : Int) := of_decide_eq_true (by first | (with_reducible assumption) | assumption)
                                     obtain ⟨ad290, e290, hx290_0⟩ := Kd.at_int HR0.out 6 p290 q290
                                     have hw290_0 := hx290_0
                                     (try rw [show ((6 : Int)).toNat = 6 from rfl] at hw290_0)
                                     (try rw [show 6 * 1 = 6 from rfl] at hw290_0)
                                     (try simp only [Nat.reduceMul, Nat.reduceEqDiff, Go.Addr.add, ↓reduceIte] at hw290_0)
                                     obtain rfl : ad283 = ad290 := (by injection e290)
                                     (try simp only [show (6 : Int).toNat = 6 from rfl, Nat.reduceMul, Nat.reduceEqDiff, Go.Addr.add, ↓reduceIte] at hx290_0)
                                     have qi290 : (6 < l0.length) = True := eq_true (by omega)
                                     (try rw [show ((6 : Int)).toNat = 6 from rfl] at hx290_0)
                                     replace hx290_0 := (HB.out.cell (World.block_lt_of_cell? w _ hx290_0)).trans hx290_0
                                     replace p290 := eq_true p290
                                     replace q290 := eq_true q290
                                     have p291 : 0 ≤ (7 : Int) := (by omega)
                                     have q291 : 7 < (l0.length : Int) := of_decide_eq_true (by first | (with_reducible assumption) | assumption)
                                     obtain ⟨ad291, e291, hx291_0⟩ := Kd.at_int HR0.out 7 p291 q291
                                     have hw291_0 := hx291_0
                                     (try rw [show ((7 : Int)).toNat = 7 from rfl] at hw291_0)
                                     (try rw [show 7 * 1 = 7 from rfl] at hw291_0)
                                     (try simp only [Nat.reduceMul, Nat.reduceEqDiff, Go.Addr.add, ↓reduceIte] at hw291_0)
                                     obtain rfl : ad283 = ad291 := (by injection e291)
                                     (try simp only [show (7 : Int).toNat = 7 from rfl, Nat.reduceMul, Nat.reduceEqDiff, Go.Addr.add, ↓reduceIte] at hx291_0)
                                     have qi291 : (7 < l0.length) = True := eq_true (by omega)
                                     (try rw [show ((7 : Int)).toNat = 7 from rfl] at hx291_0)
                                     replace hx291_0 := (HB.out.cell (World.block_lt_of_cell? w _ hx291_0)).trans hx291_0
                                     replace p291 := eq_true p291
                                     replace q291 := eq_true q291
                                     refine start_ (n := 15) (S := fun w' => w'.cell? ⟨ad283.block, ad283.off + 5, none⟩ = some (.int .u8 (rd l0 5)) ∧ w'.cell? ⟨ad283.block, ad283.off + 6, none⟩ = some (.int .u8 (rd l0 6)) ∧ w'.cell? ⟨ad283.block, ad283.off + 7, none⟩ = some (.int .u8 (rd l0 7))) (ds := []) #[false, false, false, false, false, false, false, false, false, false, false, false, false, false, false] (by kernel_rfl) rfl rfl ⟨((HB.out.cell (World.block_lt_of_cell? w _ hw289_0)).trans hw289_0), ((HB.out.cell (World.block_lt_of_cell? w _ hw290_0)).trans hw290_0), ((HB.out.cell (World.block_lt_of_cell? w _ hw291_0)).trans hw291_0)⟩ (fun hHeld => ?_); refine with_tabW keepsakeref04_Decode.tab10 keepsakeref04_Decode.bits10 (fun HT_ HW_ => ?_)
                                     generalize w64.drew = w65 at BK278 BK288 HB hx289_0 hx290_0 hx291_0 hHeld ⊢
                                     refine pure_ (i := 0) (N := some 48) (v := ?_) (a' := ?_) #[true, false, false, false, false, false, false, false, false, false, false, false, false, false, false] rfl rfl (any_of HT_.out (by kernel_rfl)) (fun _ _ _ h => h) (Or.inl ⟨by rfl, ?_⟩) ?_ ?_
                                     rotate_left
                                     · intro w'
                                       go_simp
                                       with_reducible rfl
                                     rotate_left
                                     · simp only [Act.put, List.setIfInBounds_toArray, List.set_cons_zero, List.set_cons_succ, i64_w, i32_w]
                                       rfl
                                     refine pure_ (i := 1) (N := some 49) (v := ?_) (a' := ?_) #[true, true, false, false, false, false, false, false, false, false, false, false, false, false, false] rfl rfl (any_of HT_.out (by kernel_rfl)) (fun _ _ _ h => h) (Or.inl ⟨by rfl, ?_⟩) ?_ ?_
                                     rotate_left
                                     · intro w'
                                       go_simp
                                       with_reducible rfl
                                     rotate_left
                                     · simp only [Act.put, List.setIfInBounds_toArray, List.set_cons_zero, List.set_cons_succ, i64_w, i32_w]
                                       rfl
                                     refine pure_ (i := 4) (N := some 52) (v := ?_) (a' := ?_) #[true, true, false, false, true, false, false, false, false, false, false, false, false, false, false] rfl rfl (any_of HT_.out (by kernel_rfl)) (fun _ _ _ h => h) (Or.inl ⟨by rfl, ?_⟩) ?_ ?_
                                     rotate_left
                                     · intro w'
                                       go_simp
                                       with_reducible rfl
                                     rotate_left
                                     · simp only [Act.put, List.setIfInBounds_toArray, List.set_cons_zero, List.set_cons_succ, i64_w, i32_w]
                                       rfl
                                     refine pure_ (i := 5) (N := some 53) (v := ?_) (a' := ?_) #[true, true, false, false, true, true, false, false, false, false, false, false, false, false, false] rfl rfl (any_of HT_.out (by kernel_rfl)) (fun _ _ _ h => h) (Or.inl ⟨by rfl, ?_⟩) ?_ ?_
                                     rotate_left
                                     · intro w'
                                       go_simp
                                       with_reducible rfl
                                     rotate_left
                                     · simp only [Act.put, List.setIfInBounds_toArray, List.set_cons_zero, List.set_cons_succ, i64_w, i32_w]
                                       rfl
                                     refine pure_ (i := 8) (N := some 56) (v := ?_) (a' := ?_) #[true, true, false, false, true, true, false, false, true, false, false, false, false, false, false] rfl rfl (any_of HT_.out (by kernel_rfl)) (fun _ _ _ h => h) (Or.inl ⟨by rfl, ?_⟩) ?_ ?_
                                     rotate_left
                                     · intro w'
                                       go_simp
                                       with_reducible rfl
                                     rotate_left
                                     · simp only [Act.put, List.setIfInBounds_toArray, List.set_cons_zero, List.set_cons_succ, i64_w, i32_w]
                                       rfl
                                     refine pure_ (i := 9) (N := some 57) (v := ?_) (a' := ?_) #[true, true, false, false, true, true, false, false, true, true, false, false, false, false, false] rfl rfl (any_of HT_.out (by kernel_rfl)) (fun _ _ _ h => h) (Or.inl ⟨by rfl, ?_⟩) ?_ ?_
                                     rotate_left
                                     · intro w'
                                       go_simp
                                       with_reducible rfl
                                     rotate_left
                                     · simp only [Act.put, List.setIfInBounds_toArray, List.set_cons_zero, List.set_cons_succ, i64_w, i32_w]
                                       rfl
                                     refine take_ (i := 2) (N := some 50) (v := ?_) (a' := ?_) #[true, true, true, false, true, true, false, false, true, true, false, false, false, false, false] rfl rfl (take_ofW HT_.out HW_.out (by kernel_rfl)) (fun _ _ _ h => h) (Or.inl ⟨by rfl, ?_⟩) hHeld ?_ ?_
                                     rotate_left
                                     · rintro w' ⟨s0, s1, s2⟩
                                       go_simp
                                       with_reducible rfl
                                     rotate_left
                                     · simp only [Act.put, List.setIfInBounds_toArray, List.set_cons_zero, List.set_cons_succ, i64_w, i32_w]
                                       rfl
                                     refine pure_ (i := 3) (N := some 51) (v := ?_) (a' := ?_) #[true, true, true, true, true, true, false, false, true, true, false, false, false, false, false] rfl rfl (any_of HT_.out (by kernel_rfl)) (fun _ _ _ h => h) (Or.inl ⟨by rfl, ?_⟩) ?_ ?_
                                     rotate_left
                                     · intro w'
                                       go_simp
                                       with_reducible rfl
                                     rotate_left
                                     · simp only [Act.put, List.setIfInBounds_toArray, List.set_cons_zero, List.set_cons_succ, i64_w, i32_w]
                                       rfl
                                     refine take_ (i := 6) (N := some 54) (v := ?_) (a' := ?_) #[true, true, true, true, true, true, true, false, true, true, false, false, false, false, false] rfl rfl (take_ofW HT_.out HW_.out (by kernel_rfl)) (fun _ _ _ h => h) (Or.inl ⟨by rfl, ?_⟩) hHeld ?_ ?_
                                     rotate_left
                                     · rintro w' ⟨s0, s1, s2⟩
                                       go_simp
                                       with_reducible rfl
                                     rotate_left
                                     · simp only [Act.put, List.setIfInBounds_toArray, List.set_cons_zero, List.set_cons_succ, i64_w, i32_w]
                                       rfl
                                     refine pure_ (i := 7) (N := some 55) (v := ?_) (a' := ?_) #[true, true, true, true, true, true, true, true, true, true, false, false, false, false, false] rfl rfl (any_of HT_.out (by kernel_rfl)) (fun _ _ _ h => h) (Or.inl ⟨by rfl, ?_⟩) ?_ ?_
                                     rotate_left
                                     · intro w'
                                       go_simp
                                       with_reducible rfl
                                     rotate_left
                                     · simp only [Act.put, List.setIfInBounds_toArray, List.set_cons_zero, List.set_cons_succ, i64_w, i32_w]
                                       rfl
                                     refine take_ (i := 10) (N := some 58) (v := ?_) (a' := ?_) #[true, true, true, true, true, true, true, true, true, true, true, false, false, false, false] rfl rfl (take_ofW HT_.out HW_.out (by kernel_rfl)) (fun _ _ _ h => h) (Or.inl ⟨by rfl, ?_⟩) hHeld ?_ ?_
                                     rotate_left
                                     · rintro w' ⟨s0, s1, s2⟩
                                       go_simp
                                       with_reducible rfl
                                     rotate_left
                                     · simp only [Act.put, List.setIfInBounds_toArray, List.set_cons_zero, List.set_cons_succ, i64_w, i32_w]
                                       rfl
                                     refine pure_ (i := 11) (N := some 59) (v := ?_) (a' := ?_) #[true, true, true, true, true, true, true, true, true, true, true, true, false, false, false] rfl rfl (any_of HT_.out (by kernel_rfl)) (fun _ _ _ h => h) (Or.inl ⟨by rfl, ?_⟩) ?_ ?_
                                     rotate_left
                                     · intro w'
                                       go_simp
                                       with_reducible rfl
                                     rotate_left
                                     · simp only [Act.put, List.setIfInBounds_toArray, List.set_cons_zero, List.set_cons_succ, i64_w, i32_w]
                                       rfl
                                     refine pure_ (i := 12) (N := some 60) (v := ?_) (a' := ?_) #[true, true, true, true, true, true, true, true, true, true, true, true, true, false, false] rfl rfl (any_of HT_.out (by kernel_rfl)) (fun _ _ _ h => h) (Or.inl ⟨by rfl, ?_⟩) ?_ ?_
                                     rotate_left
                                     · intro w'
                                       go_simp
                                       with_reducible rfl
                                     rotate_left
                                     · simp only [Act.put, List.setIfInBounds_toArray, List.set_cons_zero, List.set_cons_succ, i64_w, i32_w]
                                       rfl
                                     refine pure_ (i := 13) (N := some 61) (v := ?_) (a' := ?_) #[true, true, true, true, true, true, true, true, true, true, true, true, true, true, false] rfl rfl (any_of HT_.out (by kernel_rfl)) (fun _ _ _ h => h) (Or.inl ⟨by rfl, ?_⟩) ?_ ?_
                                     rotate_left
                                     · intro w'
                                       go_simp
                                       with_reducible rfl
                                     rotate_left
                                     · simp only [Act.put, List.setIfInBounds_toArray, List.set_cons_zero, List.set_cons_succ, i64_w, i32_w]
                                       rfl
                                     refine one_ (i := 14) (N := none) #[true, true, true, true, true, true, true, true, true, true, true, true, true, true, true] rfl rfl (one_of HT_.out (by kernel_rfl)) (by decide) (fun K hK => ?_)
                                     have hs66 : w65.cell? ⟨gb288, 0, none⟩ = some (.int .i64 0) := (blk_cell BK288.out 0).trans rfl
                                     have hfs66 := blk_frozen BK288.out 0
                                     have hns66_0 := NB278_288.out
                                     have hms66_0 := NB288_278.out
                                     have hs67 : w65.cell? ⟨gb288, 1, none⟩ = some (.int .i64 0) := (blk_cell BK288.out 1).trans rfl
                                     have hfs67 := blk_frozen BK288.out 1
                                     have hns67_0 := NB278_288.out
                                     have hms67_0 := NB288_278.out
                                     have hs68 : w65.cell? ⟨gb288, 2, none⟩ = some (.int .i64 0) := (blk_cell BK288.out 2).trans rfl
                                     have hfs68 := blk_frozen BK288.out 2
                                     have hns68_0 := NB278_288.out
                                     have hms68_0 := NB288_278.out
                                     refine skip_ (w1 := ?_) (by rfl) rfl ?_ ?_
                                     rotate_left
                                     · go_simp
                                       rfl
                                     refine hK.out _ _ ⟨((cell_far (p := ⟨gb288, _, none⟩) (by first | exact Nat.ne_of_lt (Nat.lt_of_lt_of_le (by have := World.block_lt_of_cell? _ _ hw289_0; first | rwa [add_block] at this | exact this) GW288.out) | (rw [add_block]; exact Nat.ne_of_lt (Nat.lt_of_lt_of_le (by have := World.block_lt_of_cell? _ _ hw289_0; first | rwa [add_block] at this | exact this) GW288.out)) | (show (Addr.add _ _).block ≠ _; rw [add_block]; exact Nat.ne_of_lt (Nat.lt_of_lt_of_le (by have := World.block_lt_of_cell? _ _ hw289_0; first | rwa [add_block] at this | exact this) GW288.out)) | (dsimp only; exact Nat.ne_of_lt (Nat.lt_of_lt_of_le (by have := World.block_lt_of_cell? _ _ hw289_0; first | rwa [add_block] at this | exact this) GW288.out))) _).trans (((cell_far (p := ⟨gb288, _, none⟩) (by first | exact Nat.ne_of_lt (Nat.lt_of_lt_of_le (by have := World.block_lt_of_cell? _ _ hw289_0; first | rwa [add_block] at this | exact this) GW288.out) | (rw [add_block]; exact Nat.ne_of_lt (Nat.lt_of_lt_of_le (by have := World.block_lt_of_cell? _ _ hw289_0; first | rwa [add_block] at this | exact this) GW288.out)) | (show (Addr.add _ _).block ≠ _; rw [add_block]; exact Nat.ne_of_lt (Nat.lt_of_lt_of_le (by have := World.block_lt_of_cell? _ _ hw289_0; first | rwa [add_block] at this | exact this) GW288.out)) | (dsimp only; exact Nat.ne_of_lt (Nat.lt_of_lt_of_le (by have := World.block_lt_of_cell? _ _ hw289_0; first | rwa [add_block] at this | exact this) GW288.out))) _).trans (((cell_far (p := ⟨gb288, _, none⟩) (by first | exact Nat.ne_of_lt (Nat.lt_of_lt_of_le (by have := World.block_lt_of_cell? _ _ hw289_0; first | rwa [add_block] at this | exact this) GW288.out) | (rw [add_block]; exact Nat.ne_of_lt (Nat.lt_of_lt_of_le (by have := World.block_lt_of_cell? _ _ hw289_0; first | rwa [add_block] at this | exact this) GW288.out)) | (show (Addr.add _ _).block ≠ _; rw [add_block]; exact Nat.ne_of_lt (Nat.lt_of_lt_of_le (by have := World.block_lt_of_cell? _ _ hw289_0; first | rwa [add_block] at this | exact this) GW288.out)) | (dsimp only; exact Nat.ne_of_lt (Nat.lt_of_lt_of_le (by have := World.block_lt_of_cell? _ _ hw289_0; first | rwa [add_block] at this | exact this) GW288.out))) _).trans (hHeld.1)))))), ((cell_far (p := ⟨gb288, _, none⟩) (by first | exact Nat.ne_of_lt (Nat.lt_of_lt_of_le (by have := World.block_lt_of_cell? _ _ hw290_0; first | rwa [add_block] at this | exact this) GW288.out) | (rw [add_block]; exact Nat.ne_of_lt (Nat.lt_of_lt_of_le (by have := World.block_lt_of_cell? _ _ hw290_0; first | rwa [add_block] at this | exact this) GW288.out)) | (show (Addr.add _ _).block ≠ _; rw [add_block]; exact Nat.ne_of_lt (Nat.lt_of_lt_of_le (by have := World.block_lt_of_cell? _ _ hw290_0; first | rwa [add_block] at this | exact this) GW288.out)) | (dsimp only; exact Nat.ne_of_lt (Nat.lt_of_lt_of_le (by have := World.block_lt_of_cell? _ _ hw290_0; first | rwa [add_block] at this | exact this) GW288.out))) _).trans (((cell_far (p := ⟨gb288, _, none⟩) (by first | exact Nat.ne_of_lt (Nat.lt_of_lt_of_le (by have := World.block_lt_of_cell? _ _ hw290_0; first | rwa [add_block] at this | exact this) GW288.out) | (rw [add_block]; exact Nat.ne_of_lt (Nat.lt_of_lt_of_le (by have := World.block_lt_of_cell? _ _ hw290_0; first | rwa [add_block] at this | exact this) GW288.out)) | (show (Addr.add _ _).block ≠ _; rw [add_block]; exact Nat.ne_of_lt (Nat.lt_of_lt_of_le (by have := World.block_lt_of_cell? _ _ hw290_0; first | rwa [add_block] at this | exact this) GW288.out)) | (dsimp only; exact Nat.ne_of_lt (Nat.lt_of_lt_of_le (by have := World.block_lt_of_cell? _ _ hw290_0; first | rwa [add_block] at this | exact this) GW288.out))) _).trans (((cell_far (p := ⟨gb288, _, none⟩) (by first | exact Nat.ne_of_lt (Nat.lt_of_lt_of_le (by have := World.block_lt_of_cell? _ _ hw290_0; first | rwa [add_block] at this | exact this) GW288.out) | (rw [add_block]; exact Nat.ne_of_lt (Nat.lt_of_lt_of_le (by have := World.block_lt_of_cell? _ _ hw290_0; first | rwa [add_block] at this | exact this) GW288.out)) | (show (Addr.add _ _).block ≠ _; rw [add_block]; exact Nat.ne_of_lt (Nat.lt_of_lt_of_le (by have := World.block_lt_of_cell? _ _ hw290_0; first | rwa [add_block] at this | exact this) GW288.out)) | (dsimp only; exact Nat.ne_of_lt (Nat.lt_of_lt_of_le (by have := World.block_lt_of_cell? _ _ hw290_0; first | rwa [add_block] at this | exact this) GW288.out))) _).trans (hHeld.2.1)))))), ((cell_far (p := ⟨gb288, _, none⟩) (by first | exact Nat.ne_of_lt (Nat.lt_of_lt_of_le (by have := World.block_lt_of_cell? _ _ hw291_0; first | rwa [add_block] at this | exact this) GW288.out) | (rw [add_block]; exact Nat.ne_of_lt (Nat.lt_of_lt_of_le (by have := World.block_lt_of_cell? _ _ hw291_0; first | rwa [add_block] at this | exact this) GW288.out)) | (show (Addr.add _ _).block ≠ _; rw [add_block]; exact Nat.ne_of_lt (Nat.lt_of_lt_of_le (by have := World.block_lt_of_cell? _ _ hw291_0; first | rwa [add_block] at this | exact this) GW288.out)) | (dsimp only; exact Nat.ne_of_lt (Nat.lt_of_lt_of_le (by have := World.block_lt_of_cell? _ _ hw291_0; first | rwa [add_block] at this | exact this) GW288.out))) _).trans (((cell_far (p := ⟨gb288, _, none⟩) (by first | exact Nat.ne_of_lt (Nat.lt_of_lt_of_le (by have := World.block_lt_of_cell? _ _ hw291_0; first | rwa [add_block] at this | exact this) GW288.out) | (rw [add_block]; exact Nat.ne_of_lt (Nat.lt_of_lt_of_le (by have := World.block_lt_of_cell? _ _ hw291_0; first | rwa [add_block] at this | exact this) GW288.out)) | (show (Addr.add _ _).block ≠ _; rw [add_block]; exact Nat.ne_of_lt (Nat.lt_of_lt_of_le (by have := World.block_lt_of_cell? _ _ hw291_0; first | rwa [add_block] at this | exact this) GW288.out)) | (dsimp only; exact Nat.ne_of_lt (Nat.lt_of_lt_of_le (by have := World.block_lt_of_cell? _ _ hw291_0; first | rwa [add_block] at this | exact this) GW288.out))) _).trans (((cell_far (p := ⟨gb288, _, none⟩) (by first | exact Nat.ne_of_lt (Nat.lt_of_lt_of_le (by have := World.block_lt_of_cell? _ _ hw291_0; first | rwa [add_block] at this | exact this) GW288.out) | (rw [add_block]; exact Nat.ne_of_lt (Nat.lt_of_lt_of_le (by have := World.block_lt_of_cell? _ _ hw291_0; first | rwa [add_block] at this | exact this) GW288.out)) | (show (Addr.add _ _).block ≠ _; rw [add_block]; exact Nat.ne_of_lt (Nat.lt_of_lt_of_le (by have := World.block_lt_of_cell? _ _ hw291_0; first | rwa [add_block] at this | exact this) GW288.out)) | (dsimp only; exact Nat.ne_of_lt (Nat.lt_of_lt_of_le (by have := World.block_lt_of_cell? _ _ hw291_0; first | rwa [add_block] at this | exact this) GW288.out))) _).trans (hHeld.2.2))))))⟩ (fun hHeld => ?_)
                                     clear hK K
                                     refine done_ (done_of HT_.out (by kernel_rfl)) ?_
                                     obtain ⟨i069, hi069, _, hsz69, _⟩ := info_parts info5
                                     obtain ⟨A69, hcut69, hA69, hC69⟩ := print_mid_of (P := Tryd.prog) (Value.int .u8) 0 29 5 .i64 .i64 Tryd.underlying29 hi069 hsz69 (some ad283) c0 l0 8 12 (by omega) (by first | omega | exact of_decide_eq_true (by first | (with_reducible assumption) | assumption)) (of_decide_eq_true (by first | (with_reducible assumption) | assumption)) HC0.out
                                     have HR292 := Aside0.mk (Kd.C_of_reads (h1 := fun _ => rfl) (hA69 _ (Kd.reads_of_C HR0.out)))
                                     have HC292 := Aside0.mk hC69
                                     clear hA69 hC69 hi069 hsz69
                                     try go_wp2_with (first | ((with_reducible refine gate_callee (f := 27) rfl ?_); refine goesL_ (some 64) rfl rfl Tryd.func27 (by kernel_rfl) rfl #[.slice A69 ((l0.take 12).drop 8).length (c0 - 8)] rfl (by (try simp only [List.map_toArray, List.map_cons, List.map_nil]); first | done | (rw [show ((l0.take 12).drop 8).length = (12 - 8) from (by rw [List.length_drop, List.length_take]; have h_ : (12 : Int) ≤ (l0.length : Int) := of_decide_eq_true (by first | (with_reducible assumption) | assumption); omega)] <;> rfl) | rfl | (simp only [List.length_drop, List.length_take]; rfl)) ?_; (with_reducible refine (keepsakeref04_Number.calls kj4 _ _ ((l0.take 12).drop 8) t293 _ ?side1 ?side2 A29.out).mono ?_); (case side1 => exact Kd.C_below HR292.out (by repeat (first | (with_reducible first | exact HB.out | apply below_alloc | apply pw_below_drewN | apply below_drew1 | refine below_set ?_ GE278.out | refine below_set ?_ GE288.out) | exact HB.out))); (case side2 => exact HC292.out); rintro e w' ⟨rfl, ⟨nd, rfl⟩⟩; refine ⟨_, rfl, ?_⟩; have hcz70_0 : w65.cell? ⟨gb288, 0, none⟩ = some (.int .i64 0) := (blk_cell BK288.out 0).trans rfl; have hcz70_1 : w65.cell? ⟨gb288, 1, none⟩ = some (.int .i64 0) := (blk_cell BK288.out 1).trans rfl; have hcz70_2 : w65.cell? ⟨gb288, 2, none⟩ = some (.int .i64 0) := (blk_cell BK288.out 2).trans rfl; have hcz70_3 : w65.cell? ⟨gb288, 3, none⟩ = some (.int .i64 0) := (blk_cell BK288.out 3).trans rfl; have hcz70_4 : w65.cell? ⟨gb288, 4, none⟩ = some (.int .u64 0) := (blk_cell BK288.out 4).trans rfl; have hcz70_5 : w65.cell? ⟨gb288, 5, none⟩ = some (.int .u32 0) := (blk_cell BK288.out 5).trans rfl; have hfz70_0 := blk_frozen BK288.out 0; have hfz70_1 := blk_frozen BK288.out 1; have hfz70_2 := blk_frozen BK288.out 2; have hfz70_3 := blk_frozen BK288.out 3; have hfz70_4 := blk_frozen BK288.out 4; have hfz70_5 := blk_frozen BK288.out 5; obtain ⟨i071, hi071, _, hsz71, _⟩ := info_parts info5; obtain ⟨A71, hcut71, hA71, hC71⟩ := print_mid_of (P := Tryd.prog) (Value.int .u8) 0 29 5 .i64 .i64 Tryd.underlying29 hi071 hsz71 (some ad283) c0 l0 12 20 (by omega) (by first | omega | exact of_decide_eq_true (by first | (with_reducible assumption) | assumption)) (of_decide_eq_true (by first | (with_reducible assumption) | assumption)) HC0.out; have HR294 := Aside0.mk (Kd.C_of_reads (h1 := fun _ => rfl) (hA71 _ (Kd.reads_of_C HR0.out))); have HC294 := Aside0.mk hC71; clear hA71 hC71 hi071 hsz71) | ((with_reducible refine gate_callee (f := 27) rfl ?_); refine goesL_ (some 69) rfl rfl Tryd.func27 (by kernel_rfl) rfl #[.slice A71 ((l0.take 20).drop 12).length (c0 - 12)] rfl (by (try simp only [List.map_toArray, List.map_cons, List.map_nil]); first | done | (rw [show ((l0.take 20).drop 12).length = (20 - 12) from (by rw [List.length_drop, List.length_take]; have h_ : (20 : Int) ≤ (l0.length : Int) := of_decide_eq_true (by first | (with_reducible assumption) | assumption); omega)] <;> rfl) | rfl | (simp only [List.length_drop, List.length_take]; rfl)) ?_; (with_reducible refine (keepsakeref04_Number.calls kj4 _ _ ((l0.take 20).drop 12) t295 _ ?side1 ?side2 A32.out).mono ?_); (case side1 => exact Kd.C_below HR294.out (by repeat (first | (with_reducible first | exact HB.out | apply below_alloc | apply pw_below_drewN | apply below_drew1 | refine below_set ?_ GE278.out | refine below_set ?_ GE288.out) | exact HB.out))); (case side2 => exact HC294.out); rintro e w' ⟨rfl, ⟨nd, rfl⟩⟩; refine ⟨_, rfl, ?_⟩; obtain ⟨i072, hi072, _, hsz72, _⟩ := info_parts info5; obtain ⟨A72, hcut72, hA72, hC72⟩ := print_mid_of (P := Tryd.prog) (Value.int .u8) 0 29 5 .i64 .i64 Tryd.underlying29 hi072 hsz72 (some ad283) c0 l0 20 24 (by omega) (by first | omega | exact of_decide_eq_true (by first | (with_reducible assumption) | assumption)) (of_decide_eq_true (by first | (with_reducible assumption) | assumption)) HC0.out; have HR296 := Aside0.mk (Kd.C_of_reads (h1 := fun _ => rfl) (hA72 _ (Kd.reads_of_C HR0.out))); have HC296 := Aside0.mk hC72; clear hA72 hC72 hi072 hsz72) | ((with_reducible refine gate_callee (f := 27) rfl ?_); refine goesL_ (some 73) rfl rfl Tryd.func27 (by kernel_rfl) rfl #[.slice A72 ((l0.take 24).drop 20).length (c0 - 20)] rfl (by (try simp only [List.map_toArray, List.map_cons, List.map_nil]); first | done | (rw [show ((l0.take 24).drop 20).length = (24 - 20) from (by rw [List.length_drop, List.length_take]; have h_ : (24 : Int) ≤ (l0.length : Int) := of_decide_eq_true (by first | (with_reducible assumption) | assumption); omega)] <;> rfl) | rfl | (simp only [List.length_drop, List.length_take]; rfl)) ?_; (with_reducible refine (keepsakeref04_Number.calls kj4 _ _ ((l0.take 24).drop 20) t297 _ ?side1 ?side2 A35.out).mono ?_); (case side1 => exact Kd.C_below HR296.out (by repeat (first | (with_reducible first | exact HB.out | apply below_alloc | apply pw_below_drewN | apply below_drew1 | refine below_set ?_ GE278.out | refine below_set ?_ GE288.out) | exact HB.out))); (case side2 => exact HC296.out); rintro e w' ⟨rfl, ⟨nd, rfl⟩⟩; refine ⟨_, rfl, ?_⟩) | ((with_reducible refine gate_callee (f := 23) rfl ?_); refine goesL_ (some 77) rfl rfl Tryd.func23 (by kernel_rfl) rfl #[.agg #[.int .i64 (wrap64 (rd l0 5)), .int .i64 (wrap64 (rd l0 6)), .int .i64 (wrap64 (rd l0 7)), .int .i64 (wrap64 (t293)), .int .u64 t295, .int .u32 ((t297) % 4294967296)]] rfl (by (try simp only [List.map_toArray, List.map_cons, List.map_nil]); first | done | rfl | (simp only [List.length_drop, List.length_take]; rfl)) ?_; (with_reducible refine (keepsakeref04_can.calls (wrap64 (rd l0 5)) (wrap64 (rd l0 6)) (wrap64 (rd l0 7)) (wrap64 (t293)) t295 ((t297) % 4294967296) false _ A36.out).mono ?_); rintro e w73 ⟨rfl, hb⟩; refine ⟨_, rfl, ?_⟩; have n0_ := Aside0.mk (blk_below (g := gb278) (o := .cells #[.int .i64 0, .int .i64 0, .int .i64 0, .int .i64 0, .int .u64 0, .int .u32 0] 27 (0, 0)) (by (with_reducible repeat (first | refine blk_drewN ?_ _ | refine blk_drew ?_ | refine blk_alloc ?_ _)); refine blk_far ?_ NB278_288.out _; (with_reducible repeat (first | refine blk_drewN ?_ _ | refine blk_drew ?_ | refine blk_alloc ?_ _)); refine blk_far ?_ NB278_288.out _; (with_reducible repeat (first | refine blk_drewN ?_ _ | refine blk_drew ?_ | refine blk_alloc ?_ _)); refine blk_far ?_ NB278_288.out _; (with_reducible repeat (first | refine blk_drewN ?_ _ | refine blk_drew ?_ | refine blk_alloc ?_ _)); refine blk_far ?_ NB278_288.out _; (with_reducible repeat (first | refine blk_drewN ?_ _ | refine blk_drew ?_ | refine blk_alloc ?_ _)); refine blk_far ?_ NB278_288.out _; (with_reducible repeat (first | refine blk_drewN ?_ _ | refine blk_drew ?_ | refine blk_alloc ?_ _)); refine blk_far ?_ NB278_288.out _; (with_reducible repeat (first | refine blk_drewN ?_ _ | refine blk_drew ?_ | refine blk_alloc ?_ _)); exact BK278.out) hb); have n1_ := Aside0.mk (blk_below (g := gb288) (o := .cells #[.int .i64 (wrap64 (rd l0 5)), .int .i64 (wrap64 (rd l0 6)), .int .i64 (wrap64 (rd l0 7)), .int .i64 (wrap64 (t293)), .int .u64 t295, .int .u32 ((t297) % 4294967296)] 27 (0, 0)) (by (with_reducible repeat (first | refine blk_drewN ?_ _ | refine blk_drew ?_ | refine blk_alloc ?_ _)); refine blk_put (cs := #[.int .i64 (wrap64 (rd l0 5)), .int .i64 (wrap64 (rd l0 6)), .int .i64 (wrap64 (rd l0 7)), .int .i64 (wrap64 (t293)), .int .u64 t295, .int .u32 0]) ?_ 5 _ rfl; (with_reducible repeat (first | refine blk_drewN ?_ _ | refine blk_drew ?_ | refine blk_alloc ?_ _)); refine blk_put (cs := #[.int .i64 (wrap64 (rd l0 5)), .int .i64 (wrap64 (rd l0 6)), .int .i64 (wrap64 (rd l0 7)), .int .i64 (wrap64 (t293)), .int .u64 0, .int .u32 0]) ?_ 4 _ rfl; (with_reducible repeat (first | refine blk_drewN ?_ _ | refine blk_drew ?_ | refine blk_alloc ?_ _)); refine blk_put (cs := #[.int .i64 (wrap64 (rd l0 5)), .int .i64 (wrap64 (rd l0 6)), .int .i64 (wrap64 (rd l0 7)), .int .i64 0, .int .u64 0, .int .u32 0]) ?_ 3 _ rfl; (with_reducible repeat (first | refine blk_drewN ?_ _ | refine blk_drew ?_ | refine blk_alloc ?_ _)); refine blk_put (cs := #[.int .i64 (wrap64 (rd l0 5)), .int .i64 (wrap64 (rd l0 6)), .int .i64 0, .int .i64 0, .int .u64 0, .int .u32 0]) ?_ 2 _ rfl; (with_reducible repeat (first | refine blk_drewN ?_ _ | refine blk_drew ?_ | refine blk_alloc ?_ _)); refine blk_put (cs := #[.int .i64 (wrap64 (rd l0 5)), .int .i64 0, .int .i64 0, .int .i64 0, .int .u64 0, .int .u32 0]) ?_ 1 _ rfl; (with_reducible repeat (first | refine blk_drewN ?_ _ | refine blk_drew ?_ | refine blk_alloc ?_ _)); refine blk_put (cs := #[.int .i64 0, .int .i64 0, .int .i64 0, .int .i64 0, .int .u64 0, .int .u32 0]) ?_ 0 _ rfl; (with_reducible repeat (first | refine blk_drewN ?_ _ | refine blk_drew ?_ | refine blk_alloc ?_ _)); exact BK288.out) hb); have n2_ := Aside0.mk (below_step (by repeat (first | (with_reducible first | exact HB.out | apply below_alloc | apply pw_below_drewN | apply below_drew1 | refine below_set ?_ GE278.out | refine below_set ?_ GE288.out) | exact HB.out)) hb); clear BK278; clear BK288; clear HB; have BK278 := n0_; have BK288 := n1_; have HB := n2_; clear n0_ n1_ n2_; (try clear hb); (try clear hb2); (try clear hk); (try clear hi); have hcz74_0 : w73.cell? ⟨gb278, 0, none⟩ = some (.int .i64 0) := (blk_cell BK278.out 0).trans rfl; have hcz74_1 : w73.cell? ⟨gb278, 1, none⟩ = some (.int .i64 0) := (blk_cell BK278.out 1).trans rfl; have hcz74_2 : w73.cell? ⟨gb278, 2, none⟩ = some (.int .i64 0) := (blk_cell BK278.out 2).trans rfl; have hcz74_3 : w73.cell? ⟨gb278, 3, none⟩ = some (.int .i64 0) := (blk_cell BK278.out 3).trans rfl; have hcz74_4 : w73.cell? ⟨gb278, 4, none⟩ = some (.int .u64 0) := (blk_cell BK278.out 4).trans rfl; have hcz74_5 : w73.cell? ⟨gb278, 5, none⟩ = some (.int .u32 0) := (blk_cell BK278.out 5).trans rfl; have hfz74_0 := blk_frozen BK278.out 0; have hfz74_1 := blk_frozen BK278.out 1; have hfz74_2 := blk_frozen BK278.out 2; have hfz74_3 := blk_frozen BK278.out 3; have hfz74_4 := blk_frozen BK278.out 4; have hfz74_5 := blk_frozen BK278.out 5))
                                     refine bodyPost_ret (results_ct rfl _ _ gb278 27 #[.int .i64 0, .int .i64 0, .int .i64 0, .int .i64 0, .int .u64 0, .int .u32 0] (0, 0) _ rfl (by (with_reducible repeat (first | refine blk_drewN ?_ _ | refine blk_drew ?_ | refine blk_alloc ?_ _)); refine blk_put (cs := #[.int .i64 0, .int .i64 0, .int .i64 0, .int .i64 0, .int .u64 0, .int .u32 0]) ?_ 5 _ rfl; (with_reducible repeat (first | refine blk_drewN ?_ _ | refine blk_drew ?_ | refine blk_alloc ?_ _)); refine blk_put (cs := #[.int .i64 0, .int .i64 0, .int .i64 0, .int .i64 0, .int .u64 0, .int .u32 0]) ?_ 4 _ rfl; (with_reducible repeat (first | refine blk_drewN ?_ _ | refine blk_drew ?_ | refine blk_alloc ?_ _)); refine blk_put (cs := #[.int .i64 0, .int .i64 0, .int .i64 0, .int .i64 0, .int .u64 0, .int .u32 0]) ?_ 3 _ rfl; (with_reducible repeat (first | refine blk_drewN ?_ _ | refine blk_drew ?_ | refine blk_alloc ?_ _)); refine blk_put (cs := #[.int .i64 0, .int .i64 0, .int .i64 0, .int .i64 0, .int .u64 0, .int .u32 0]) ?_ 2 _ rfl; (with_reducible repeat (first | refine blk_drewN ?_ _ | refine blk_drew ?_ | refine blk_alloc ?_ _)); refine blk_put (cs := #[.int .i64 0, .int .i64 0, .int .i64 0, .int .i64 0, .int .u64 0, .int .u32 0]) ?_ 1 _ rfl; (with_reducible repeat (first | refine blk_drewN ?_ _ | refine blk_drew ?_ | refine blk_alloc ?_ _)); refine blk_put (cs := #[.int .i64 0, .int .i64 0, .int .i64 0, .int .i64 0, .int .u64 0, .int .u32 0]) ?_ 0 _ rfl; (with_reducible repeat (first | refine blk_drewN ?_ _ | refine blk_drew ?_ | refine blk_alloc ?_ _)); exact BK278.out) Tryd.underlying27 rfl (by kernel_rfl)) rfl ?_
                                     exact ⟨by first | rfl | (simp [errW_none, errW_some] <;> rfl) | (simp [*, errW_none, errW_some] <;> rfl), by repeat (first | (with_reducible first | exact HB.out | apply below_alloc | apply pw_below_drewN | apply below_drew1 | refine below_set ?_ GE278.out | refine below_set ?_ GE288.out) | exact HB.out)⟩
                                 · rw [if_neg c33] at H
                                   exact absurd H (by simp)
                               · rw [if_neg c31] at H
                                 exact absurd H (by simp)
                             · rw [if_neg c30] at H
                               exact absurd H (by simp)
                           · rw [if_neg c28] at H
                             exact absurd H (by simp)
                         · rw [if_neg c27] at H
                           exact absurd H (by simp)
                       · rw [if_neg c26] at H
                         exact absurd H (by simp)
                     · rw [if_neg c25] at H
                       exact absurd H (by simp)
                   · rw [if_neg c24] at H
                     exact absurd H (by simp)
                 · rw [if_neg c23] at H
                   have c23b0 : (t285 == (IntKind.u64.wrap (t287))) = false := beq_eq_false_iff_ne.mpr c23
                   have c23b1 : (t285 != (IntKind.u64.wrap (t287))) = true := bne_iff_ne.mpr c23
                   simp only [Option.some.injEq, Prod.mk.injEq] at H
                   obtain ⟨rfl, rfl, rfl, rfl, rfl, rfl, rfl⟩ := H
                   have p283 : 0 ≤ (4 : Int) := (by omega)
                   have q283 : 4 < (l0.length : Int) := of_decide_eq_true (by first | (with_reducible assumption) | assumption)
                   obtain ⟨ad283, e283, hx283_0⟩ := Kd.at_int HR0.out 4 p283 q283
                   cases e283
                   (try simp only [show (4 : Int).toNat = 4 from rfl, Nat.reduceMul, Nat.reduceEqDiff, Go.Addr.add, ↓reduceIte] at hx283_0)
                   have qi283 : (4 < l0.length) = True := eq_true (by omega)
                   (try rw [show ((4 : Int)).toNat = 4 from rfl] at hx283_0)
                   replace hx283_0 := (HB.out.cell (World.block_lt_of_cell? w _ hx283_0)).trans hx283_0
                   replace p283 := eq_true p283
                   replace q283 := eq_true q283
                   try go_wp2
                   have n0_ := Aside0.mk (blk_drew BK278.out)
                   have n1_ := Aside0.mk (below_drew1 HB.out)
                   clear BK278
                   clear HB
                   have BK278 := n0_
                   have HB := n1_
                   clear n0_ n1_
                   obtain ⟨i076, hi076, _, hsz76, _⟩ := info_parts info5
                   obtain ⟨A76, hcut76, hA76, hC76⟩ := print_mid_of (P := Tryd.prog) (Value.int .u8) 0 29 5 .i64 .i64 Tryd.underlying29 hi076 hsz76 (some ad283) c0 l0 24 28 (by omega) (by first | omega | exact of_decide_eq_true (by first | (with_reducible assumption) | assumption)) (of_decide_eq_true (by first | (with_reducible assumption) | assumption)) HC0.out
                   have HR284 := Aside0.mk (Kd.C_of_reads (h1 := fun _ => rfl) (hA76 _ (Kd.reads_of_C HR0.out)))
                   have HC284 := Aside0.mk hC76
                   clear hA76 hC76 hi076 hsz76
                   obtain ⟨i077, hi077, _, hsz77, _⟩ := info_parts info5
                   obtain ⟨hcut77, hA77, hC77⟩ := print_take_of (P := Tryd.prog) (Value.int .u8) 0 29 5 .i64 Tryd.underlying29 hi077 hsz77 (some ad283) c0 l0 24 (by omega) (of_decide_eq_true (by first | (with_reducible assumption) | assumption)) HC0.out
                   have HR286 := Aside0.mk (Kd.C_of_reads (h1 := fun _ => rfl) (hA77 _ (Kd.reads_of_C HR0.out)))
                   have HC286 := Aside0.mk hC77
                   clear hA77 hC77 hi077 hsz77
                   refine start_ (n := 8) (S := fun w' => True) (ds := []) #[false, false, false, false, false, false, false, false] (by kernel_rfl) rfl rfl trivial (fun hHeld => ?_); refine with_tabW keepsakeref04_Decode.tab7 keepsakeref04_Decode.bits7 (fun HT_ HW_ => ?_)
                   generalize wc.drew = w75 at BK278 HB HR284 HR286 hHeld ⊢
                   refine pure_ (i := 0) (N := some 38) (v := ?_) (a' := ?_) #[true, false, false, false, false, false, false, false] rfl rfl (any_of HT_.out (by kernel_rfl)) (fun _ _ _ h => h) (Or.inl ⟨by rfl, ?_⟩) ?_ ?_
                   rotate_left
                   · intro w'
                     go_simp
                     with_reducible rfl
                   rotate_left
                   · simp only [Act.put, List.setIfInBounds_toArray, List.set_cons_zero, List.set_cons_succ, i64_w, i32_w]
                     rfl
                   refine pure_ (i := 1) (N := some 39) (v := ?_) (a' := ?_) #[true, true, false, false, false, false, false, false] rfl rfl (any_of HT_.out (by kernel_rfl)) (fun _ _ _ h => h) (Or.inl ⟨by rfl, ?_⟩) ?_ ?_
                   rotate_left
                   · intro w'
                     go_simp
                     with_reducible rfl
                   rotate_left
                   · simp only [Act.put, List.setIfInBounds_toArray, List.set_cons_zero, List.set_cons_succ, i64_w, i32_w]
                     rfl
                   refine pure_ (i := 3) (N := some 41) (v := ?_) (a' := ?_) #[true, true, false, true, false, false, false, false] rfl rfl (any_of HT_.out (by kernel_rfl)) (fun _ _ _ h => h) (Or.inl ⟨by rfl, ?_⟩) ?_ ?_
                   rotate_left
                   · intro w'
                     go_simp
                     with_reducible rfl
                   rotate_left
                   · simp only [Act.put, List.setIfInBounds_toArray, List.set_cons_zero, List.set_cons_succ, i64_w, i32_w]
                     rfl
                   refine pure_ (i := 4) (N := some 42) (v := ?_) (a' := ?_) #[true, true, false, true, true, false, false, false] rfl rfl (any_of HT_.out (by kernel_rfl)) (fun _ _ _ h => h) (Or.inl ⟨by rfl, ?_⟩) ?_ ?_
                   rotate_left
                   · intro w'
                     go_simp
                     with_reducible rfl
                   rotate_left
                   · simp only [Act.put, List.setIfInBounds_toArray, List.set_cons_zero, List.set_cons_succ, i64_w, i32_w]
                     rfl
                   refine one_ (i := 2) (N := some 40) #[true, true, true, true, true, false, false, false] rfl rfl (one_of HT_.out (by kernel_rfl)) (by decide) (fun K hK => ?_)
                   refine goes_ Tryd.func27 (by kernel_rfl) rfl #[.slice A76 ((l0.take 28).drop 24).length (c0 - 24)] (by rfl) rfl rfl (by (try simp only [List.map_toArray, List.map_cons, List.map_nil]); first | done | (rw [show ((l0.take 28).drop 24).length = (28 - 24) from (by rw [List.length_drop, List.length_take]; have h_ : (28 : Int) ≤ (l0.length : Int) := of_decide_eq_true (by first | (with_reducible assumption) | assumption); omega)] <;> rfl) | rfl | (simp only [List.length_drop, List.length_take]; rfl)) ?_
                   with_reducible refine (keepsakeref04_Number.calls kj4 _ _ ((l0.take 28).drop 24) t285 _ ?side1 ?side2 A20.out).mono ?_
                   (case side1 => repeat (first | exact (Kd.C_below HR284.out HB.out) | (with_reducible refine Kd.C_alloc ?_ _) | (with_reducible refine Kd.C_drewN ?_ _) | (with_reducible refine Kd.C_drew ?_)))
                   (case side2 => exact HC284.out)
                   rintro e w' ⟨rfl, ⟨nd, rfl⟩⟩
                   refine ⟨_, rfl, ?_⟩
                   refine hK.out _ _ trivial (fun hHeld => ?_)
                   clear hK K
                   refine norm_ (a' := ?_) ?_ ?_
                   rotate_left
                   · show Act.put _ (some 40) _ = _
                     simp only [Act.put, List.setIfInBounds_toArray, List.set_cons_zero, List.set_cons_succ, i64_w, i32_w]
                     rfl
                   refine one_ (i := 5) (N := some 43) #[true, true, true, true, true, true, false, false] rfl rfl (one_of HT_.out (by kernel_rfl)) (by decide) (fun K hK => ?_)
                   refine goes_ Tryd.func24 (by kernel_rfl) rfl #[.slice (some ad283) (l0.take 24).length c0] (by rfl) rfl rfl (by (try simp only [List.map_toArray, List.map_cons, List.map_nil]); first | done | (rw [show (l0.take 24).length = 24 from (by rw [List.length_take]; have h_ : (24 : Int) ≤ (l0.length : Int) := of_decide_eq_true (by first | (with_reducible assumption) | assumption); omega)] <;> rfl) | rfl | (simp only [List.length_drop, List.length_take]; rfl)) ?_
                   with_reducible refine (keepsakeref01_Sum.calls kj4 _ _ (l0.take 24) t287 _ ?side1 ?side2 A22.out).mono ?_
                   (case side1 => repeat (first | exact (Kd.C_below HR286.out (by repeat (first | (with_reducible first | exact HB.out | apply below_alloc | apply pw_below_drewN | apply below_drew1 | refine below_set ?_ GE278.out) | exact HB.out))) | (with_reducible refine Kd.C_alloc ?_ _) | (with_reducible refine Kd.C_drewN ?_ _) | (with_reducible refine Kd.C_drew ?_)))
                   (case side2 => exact HC286.out)
                   rintro e w78 ⟨rfl, hb⟩
                   refine ⟨_, rfl, ?_⟩
                   have n0_ := Aside0.mk (blk_below (g := gb278) (o := .cells #[.int .i64 0, .int .i64 0, .int .i64 0, .int .i64 0, .int .u64 0, .int .u32 0] 27 (0, 0)) (by (with_reducible repeat (first | refine blk_drewN ?_ _ | refine blk_drew ?_ | refine blk_alloc ?_ _)); exact BK278.out) hb)
                   have n1_ := Aside0.mk (below_step (by repeat (first | (with_reducible first | exact HB.out | apply below_alloc | apply pw_below_drewN | apply below_drew1 | refine below_set ?_ GE278.out) | exact HB.out)) hb)
                   clear BK278
                   clear HB
                   have BK278 := n0_
                   have HB := n1_
                   clear n0_ n1_
                   (try clear hb)
                   (try clear hb2)
                   (try clear hk)
                   (try clear hi)
                   refine hK.out _ _ trivial (fun hHeld => ?_)
                   clear hK K
                   refine norm_ (a' := ?_) ?_ ?_
                   rotate_left
                   · show Act.put _ (some 43) _ = _
                     simp only [Act.put, List.setIfInBounds_toArray, List.set_cons_zero, List.set_cons_succ, i64_w, i32_w]
                     rfl
                   refine pure_ (i := 6) (N := some 44) (v := ?_) (a' := ?_) #[true, true, true, true, true, true, true, false] rfl rfl (any_of HT_.out (by kernel_rfl)) (fun _ _ _ h => h) (Or.inl ⟨by rfl, ?_⟩) ?_ ?_
                   rotate_left
                   · intro w'
                     go_simp
                     with_reducible rfl
                   rotate_left
                   · simp only [Act.put, List.setIfInBounds_toArray, List.set_cons_zero, List.set_cons_succ, i64_w, i32_w]
                     rfl
                   refine pure_ (i := 7) (N := some 45) (v := ?_) (a' := ?_) #[true, true, true, true, true, true, true, true] rfl rfl (any_of HT_.out (by kernel_rfl)) (fun _ _ _ h => h) (Or.inl ⟨by rfl, ?_⟩) ?_ ?_
                   rotate_left
                   · intro w'
                     go_simp
                     with_reducible rfl
                   rotate_left
                   · simp only [Act.put, List.setIfInBounds_toArray, List.set_cons_zero, List.set_cons_succ, i64_w, i32_w]
                     rfl
                   refine done_ (done_of HT_.out (by kernel_rfl)) ?_
                   have hcz79_0 : w78.cell? ⟨gb278, 0, none⟩ = some (.int .i64 0) := (blk_cell BK278.out 0).trans rfl
                   have hcz79_1 : w78.cell? ⟨gb278, 1, none⟩ = some (.int .i64 0) := (blk_cell BK278.out 1).trans rfl
                   have hcz79_2 : w78.cell? ⟨gb278, 2, none⟩ = some (.int .i64 0) := (blk_cell BK278.out 2).trans rfl
                   have hcz79_3 : w78.cell? ⟨gb278, 3, none⟩ = some (.int .i64 0) := (blk_cell BK278.out 3).trans rfl
                   have hcz79_4 : w78.cell? ⟨gb278, 4, none⟩ = some (.int .u64 0) := (blk_cell BK278.out 4).trans rfl
                   have hcz79_5 : w78.cell? ⟨gb278, 5, none⟩ = some (.int .u32 0) := (blk_cell BK278.out 5).trans rfl
                   have hfz79_0 := blk_frozen BK278.out 0
                   have hfz79_1 := blk_frozen BK278.out 1
                   have hfz79_2 := blk_frozen BK278.out 2
                   have hfz79_3 := blk_frozen BK278.out 3
                   have hfz79_4 := blk_frozen BK278.out 4
                   have hfz79_5 := blk_frozen BK278.out 5
                   try go_wp2
                   refine bodyPost_ret (results_ct rfl _ _ gb278 27 #[.int .i64 0, .int .i64 0, .int .i64 0, .int .i64 0, .int .u64 0, .int .u32 0] (0, 0) _ rfl (by (with_reducible repeat (first | refine blk_drewN ?_ _ | refine blk_drew ?_ | refine blk_alloc ?_ _)); refine blk_put (cs := #[.int .i64 0, .int .i64 0, .int .i64 0, .int .i64 0, .int .u64 0, .int .u32 0]) ?_ 5 _ rfl; (with_reducible repeat (first | refine blk_drewN ?_ _ | refine blk_drew ?_ | refine blk_alloc ?_ _)); refine blk_put (cs := #[.int .i64 0, .int .i64 0, .int .i64 0, .int .i64 0, .int .u64 0, .int .u32 0]) ?_ 4 _ rfl; (with_reducible repeat (first | refine blk_drewN ?_ _ | refine blk_drew ?_ | refine blk_alloc ?_ _)); refine blk_put (cs := #[.int .i64 0, .int .i64 0, .int .i64 0, .int .i64 0, .int .u64 0, .int .u32 0]) ?_ 3 _ rfl; (with_reducible repeat (first | refine blk_drewN ?_ _ | refine blk_drew ?_ | refine blk_alloc ?_ _)); refine blk_put (cs := #[.int .i64 0, .int .i64 0, .int .i64 0, .int .i64 0, .int .u64 0, .int .u32 0]) ?_ 2 _ rfl; (with_reducible repeat (first | refine blk_drewN ?_ _ | refine blk_drew ?_ | refine blk_alloc ?_ _)); refine blk_put (cs := #[.int .i64 0, .int .i64 0, .int .i64 0, .int .i64 0, .int .u64 0, .int .u32 0]) ?_ 1 _ rfl; (with_reducible repeat (first | refine blk_drewN ?_ _ | refine blk_drew ?_ | refine blk_alloc ?_ _)); refine blk_put (cs := #[.int .i64 0, .int .i64 0, .int .i64 0, .int .i64 0, .int .u64 0, .int .u32 0]) ?_ 0 _ rfl; (with_reducible repeat (first | refine blk_drewN ?_ _ | refine blk_drew ?_ | refine blk_alloc ?_ _)); exact BK278.out) Tryd.underlying27 rfl (by kernel_rfl)) rfl ?_
                   exact ⟨by first | rfl | (simp [errW_none, errW_some] <;> rfl) | (simp [*, errW_none, errW_some] <;> rfl), by repeat (first | (with_reducible first | exact HB.out | apply below_alloc | apply pw_below_drewN | apply below_drew1 | refine below_set ?_ GE278.out) | exact HB.out)⟩
               · rw [if_neg c21] at H
                 exact absurd H (by simp)
             · rw [if_neg c19] at H
               exact absurd H (by simp)
           · rw [if_neg c18] at H
             exact absurd H (by simp)
         · rw [if_neg c17] at H
           have c17b0 : ((rd l0 4) == 1) = false := beq_eq_false_iff_ne.mpr c17
           have c17b1 : ((rd l0 4) != 1) = true := bne_iff_ne.mpr c17
           simp only [Option.some.injEq, Prod.mk.injEq] at H
           obtain ⟨rfl, rfl, rfl, rfl, rfl, rfl, rfl⟩ := H
           have p283 : 0 ≤ (4 : Int) := (by omega)
           have q283 : 4 < (l0.length : Int) := of_decide_eq_true (by first | (with_reducible assumption) | assumption)
           obtain ⟨ad283, e283, hx283_0⟩ := Kd.at_int HR0.out 4 p283 q283
           cases e283
           (try simp only [show (4 : Int).toNat = 4 from rfl, Nat.reduceMul, Nat.reduceEqDiff, Go.Addr.add, ↓reduceIte] at hx283_0)
           have qi283 : (4 < l0.length) = True := eq_true (by omega)
           (try rw [show ((4 : Int)).toNat = 4 from rfl] at hx283_0)
           replace hx283_0 := (HB.out.cell (World.block_lt_of_cell? w _ hx283_0)).trans hx283_0
           replace p283 := eq_true p283
           replace q283 := eq_true q283
           have hcz80_0 : wc.cell? ⟨gb278, 0, none⟩ = some (.int .i64 0) := (blk_cell BK278.out 0).trans rfl
           have hcz80_1 : wc.cell? ⟨gb278, 1, none⟩ = some (.int .i64 0) := (blk_cell BK278.out 1).trans rfl
           have hcz80_2 : wc.cell? ⟨gb278, 2, none⟩ = some (.int .i64 0) := (blk_cell BK278.out 2).trans rfl
           have hcz80_3 : wc.cell? ⟨gb278, 3, none⟩ = some (.int .i64 0) := (blk_cell BK278.out 3).trans rfl
           have hcz80_4 : wc.cell? ⟨gb278, 4, none⟩ = some (.int .u64 0) := (blk_cell BK278.out 4).trans rfl
           have hcz80_5 : wc.cell? ⟨gb278, 5, none⟩ = some (.int .u32 0) := (blk_cell BK278.out 5).trans rfl
           have hfz80_0 := blk_frozen BK278.out 0
           have hfz80_1 := blk_frozen BK278.out 1
           have hfz80_2 := blk_frozen BK278.out 2
           have hfz80_3 := blk_frozen BK278.out 3
           have hfz80_4 := blk_frozen BK278.out 4
           have hfz80_5 := blk_frozen BK278.out 5
           go_wp2
           refine bodyPost_ret (results_ct rfl _ _ gb278 27 #[.int .i64 0, .int .i64 0, .int .i64 0, .int .i64 0, .int .u64 0, .int .u32 0] (0, 0) _ rfl (by (with_reducible repeat (first | refine blk_drewN ?_ _ | refine blk_drew ?_ | refine blk_alloc ?_ _)); refine blk_put (cs := #[.int .i64 0, .int .i64 0, .int .i64 0, .int .i64 0, .int .u64 0, .int .u32 0]) ?_ 5 _ rfl; (with_reducible repeat (first | refine blk_drewN ?_ _ | refine blk_drew ?_ | refine blk_alloc ?_ _)); refine blk_put (cs := #[.int .i64 0, .int .i64 0, .int .i64 0, .int .i64 0, .int .u64 0, .int .u32 0]) ?_ 4 _ rfl; (with_reducible repeat (first | refine blk_drewN ?_ _ | refine blk_drew ?_ | refine blk_alloc ?_ _)); refine blk_put (cs := #[.int .i64 0, .int .i64 0, .int .i64 0, .int .i64 0, .int .u64 0, .int .u32 0]) ?_ 3 _ rfl; (with_reducible repeat (first | refine blk_drewN ?_ _ | refine blk_drew ?_ | refine blk_alloc ?_ _)); refine blk_put (cs := #[.int .i64 0, .int .i64 0, .int .i64 0, .int .i64 0, .int .u64 0, .int .u32 0]) ?_ 2 _ rfl; (with_reducible repeat (first | refine blk_drewN ?_ _ | refine blk_drew ?_ | refine blk_alloc ?_ _)); refine blk_put (cs := #[.int .i64 0, .int .i64 0, .int .i64 0, .int .i64 0, .int .u64 0, .int .u32 0]) ?_ 1 _ rfl; (with_reducible repeat (first | refine blk_drewN ?_ _ | refine blk_drew ?_ | refine blk_alloc ?_ _)); refine blk_put (cs := #[.int .i64 0, .int .i64 0, .int .i64 0, .int .i64 0, .int .u64 0, .int .u32 0]) ?_ 0 _ rfl; (with_reducible repeat (first | refine blk_drewN ?_ _ | refine blk_drew ?_ | refine blk_alloc ?_ _)); exact BK278.out) Tryd.underlying27 rfl (by kernel_rfl)) rfl ?_
           exact ⟨by first | rfl | (simp [errW_none, errW_some] <;> rfl) | (simp [*, errW_none, errW_some] <;> rfl), by repeat (first | (with_reducible first | exact HB.out | apply below_alloc | apply pw_below_drewN | apply below_drew1 | refine below_set ?_ GE278.out) | exact HB.out)⟩
       · rw [if_neg c16] at H
         exact absurd H (by simp)

end Go.Proofs.YtlinaijndlcfjaaDoor.All
-- slimmed
