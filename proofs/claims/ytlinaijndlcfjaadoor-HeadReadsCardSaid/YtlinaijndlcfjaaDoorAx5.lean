-- written by a program of mine (xprint_patch.py over the kit's print)
import Derived.Test.YtlinaijndlcfjaaDoorAx0
import Derived.Test.YtlinaijndlcfjaaDoorAx3
import Derived.Test.YtlinaijndlcfjaaDoorAx4
namespace Go.Proofs.YtlinaijndlcfjaaDoor.Given
end Go.Proofs.YtlinaijndlcfjaaDoor.Given
namespace Go.Proofs.YtlinaijndlcfjaaDoor.All
open Go.Proofs.YtlinaijndlcfjaaDoor.Given
open Go.RowKit Go.Proofs.YtlinaijndlcfjaaDoorW.PrintWords Go.Proofs.YtlinaijndlcfjaaDoorW.PrintLast Go.Proofs.YtlinaijndlcfjaaDoorW.PrintMore
attribute [local go_sem] max2_int min2_int max_two min_two max_three min_three max_four min_four   -- for this text's walks alone
set_option linter.unusedVariables false
set_option linter.unusedSimpArgs false

/-! ### head_Decode: function 13 -/
def head_Decode.f (k : Nat) (l0 : List Int) : Option (Int × Int × Int × Int × Int × Int × Int) := if (l0.length : Int) < 28 then (some (0, 0, 0, 0, 0, 0, 5)) else (if 4 ≤ (l0.length : Int) then (if (strOfNums (l0.take 4)).toList = ([75, 69, 69, 80] : List UInt8) then (if 4 < (l0.length : Int) then (if (rd l0 4) = 1 then (if 24 ≤ (l0.length : Int) then ((crc_Sum.f k (l0.take 24)).bind fun t156 => (if 24 ≤ 28 then (if 28 ≤ (l0.length : Int) then ((head_take_uint32.f k ((l0.take 28).drop 24)).bind fun t158 => (if t156 = t158 then (if 5 < (l0.length : Int) then (if 6 < (l0.length : Int) then (if 7 < (l0.length : Int) then (if 8 ≤ 12 then (if 12 ≤ (l0.length : Int) then ((head_take_uint32.f k ((l0.take 12).drop 8)).bind fun t163 => (if 12 ≤ 20 then (if 20 ≤ (l0.length : Int) then ((head_take_uint64.f k ((l0.take 20).drop 12)).bind fun t165 => (if 20 ≤ 24 then ((head_take_uint32.f k ((l0.take 24).drop 20)).bind fun t167 => ((head_right.f (wrap64 (rd l0 5)) (wrap64 (rd l0 6)) (wrap64 (rd l0 7)) (wrap64 (t163)) t165 t167).bind fun t169 => (if t169 = true then (some (wrap64 (rd l0 5), wrap64 (rd l0 6), wrap64 (rd l0 7), wrap64 (t163), t165, t167, 0)) else (some (0, 0, 0, 0, 0, 0, 9))))) else (none))) else (none)) else (none))) else (none)) else (none)) else (none)) else (none)) else (none)) else (some (0, 0, 0, 0, 0, 0, 8)))) else (none)) else (none))) else (none)) else (some (0, 0, 0, 0, 0, 0, 7))) else (none)) else (some (0, 0, 0, 0, 0, 0, 6))) else (none))
theorem head_Decode.mono : ∀ a0 k, LeO (head_Decode.f k a0) (head_Decode.f (k + 1) a0) := by
 intro a0 k
 unfold head_Decode.f
 repeat' first
  | (with_reducible exact crc_Sum.mono _ _)
  | (with_reducible exact head_take_uint32.mono _ _)
  | (with_reducible exact head_take_uint64.mono _ _)
  | (with_reducible exact LeO.refl _)
  | (with_reducible exact LeO.none _)
  | (with_reducible refine LeO.ite ?_ ?_)
  | (with_reducible refine LeO.bind ?_ (fun _ => ?_))
  | exact crc_Sum.mono _ _
  | exact head_take_uint32.mono _ _
  | exact head_take_uint64.mono _ _
  | exact LeO.none _
  | refine LeO.ite ?_ ?_
  | refine LeO.bind ?_ (fun _ => ?_)
def head_Decode.T7 : Bool × List (List Nat × List Nat) := (true, [([], []), ([0], [0]), ([1], [1]), ([], []), ([3], [3]), ([4, 2], [4]), ([2, 5], [2, 5]), ([6, 5], [6])])
def head_Decode.B7 : List Nat := [0, 1, 3, 0, 8, 31, 63, 127]
theorem head_Decode.tab7 : rtab .any (opsOf Tryd.f13 7) = head_Decode.T7 := by kernel_rfl
theorem head_Decode.bits7 : waitsOk head_Decode.T7.2 head_Decode.B7 = true := by kernel_rfl
def head_Decode.T9 : Bool × List (List Nat × List Nat) := (true, [([], []), ([0], [0]), ([1], [1]), ([2], [2]), ([], []), ([4], [4]), ([5], [5]), ([6], [6]), ([], []), ([8], [8]), ([9], [9]), ([10], [10]), ([3, 7, 11], [3, 7, 11]), ([], []), ([13], [13]), ([14], [14]), ([15], [15]), ([], []), ([17], [17]), ([18, 15], [18]), ([], []), ([20], [20]), ([21, 19], [21]), ([12, 16, 19, 22], [12, 16, 19, 22]), ([], []), ([24, 23, 22, 0, 1, 2, 3, 4, 5, 6, 7, 8, 9, 10, 11, 12, 13, 14, 15, 16, 17, 18, 19, 20, 21, 22, 23, 24], [23, 24])])
def head_Decode.B9 : List Nat := [0, 1, 3, 7, 0, 16, 48, 112, 0, 256, 768, 1792, 4095, 0, 8192, 24576, 57344, 0, 131072, 450560, 0, 1048576, 4120576, 8388607, 0, 33554431]
theorem head_Decode.tab9 : rtab .any (opsOf Tryd.f13 9) = head_Decode.T9 := by kernel_rfl
theorem head_Decode.bits9 : waitsOk head_Decode.T9.2 head_Decode.B9 = true := by kernel_rfl
set_option maxHeartbeats 8000000 in
set_option maxRecDepth 100000 in
theorem head_Decode.calls (k : Nat) (A0 : Option Addr) (c0 : Nat) (l0 : List Int) (r1 : Int) (r2 : Int) (r3 : Int) (r4 : Int) (r5 : Int) (r6 : Int) (r7 : Int) (w : World) (hG : Laid w) (hr0 : Kd.C (Kd.int .u8) w A0 l0.length l0) (hc0 : l0.length ≤ c0) (h : head_Decode.f k l0 = some (r1, r2, r3, r4, r5, r6, r7)) :
 Calls Tryd.prog 13 #[.slice A0 l0.length c0] w fun e w' => e = .returned (.tuple #[.agg #[.int .i64 r1, .int .i64 r2, .int .i64 r3, .int .i64 r4, .int .u64 r5, .int .u32 r6], .int .i64 r7]) ∧ Below w.heap.size w w' := by
 have HG := Aside0.mk hG
 clear hG
 have hu27 := Tryd.underlying27
 have hu23 := Tryd.underlying23
 have HR0 := Aside0.mk hr0
 have HC0 := Aside0.mk hc0
 clear hr0 hc0
 have HB := Aside0.mk (Below.refl w.heap.size w)
 have H : (if (l0.length : Int) < 28 then (some (0, 0, 0, 0, 0, 0, 5)) else (if 4 ≤ (l0.length : Int) then (if (strOfNums (l0.take 4)).toList = ([75, 69, 69, 80] : List UInt8) then (if 4 < (l0.length : Int) then (if (rd l0 4) = 1 then (if 24 ≤ (l0.length : Int) then ((crc_Sum.f k (l0.take 24)).bind fun t156 => (if 24 ≤ 28 then (if 28 ≤ (l0.length : Int) then ((head_take_uint32.f k ((l0.take 28).drop 24)).bind fun t158 => (if t156 = t158 then (if 5 < (l0.length : Int) then (if 6 < (l0.length : Int) then (if 7 < (l0.length : Int) then (if 8 ≤ 12 then (if 12 ≤ (l0.length : Int) then ((head_take_uint32.f k ((l0.take 12).drop 8)).bind fun t163 => (if 12 ≤ 20 then (if 20 ≤ (l0.length : Int) then ((head_take_uint64.f k ((l0.take 20).drop 12)).bind fun t165 => (if 20 ≤ 24 then ((head_take_uint32.f k ((l0.take 24).drop 20)).bind fun t167 => ((head_right.f (wrap64 (rd l0 5)) (wrap64 (rd l0 6)) (wrap64 (rd l0 7)) (wrap64 (t163)) t165 t167).bind fun t169 => (if t169 = true then (some (wrap64 (rd l0 5), wrap64 (rd l0 6), wrap64 (rd l0 7), wrap64 (t163), t165, t167, 0)) else (some (0, 0, 0, 0, 0, 0, 9))))) else (none))) else (none)) else (none))) else (none)) else (none)) else (none)) else (none)) else (none)) else (some (0, 0, 0, 0, 0, 0, 8)))) else (none)) else (none))) else (none)) else (some (0, 0, 0, 0, 0, 0, 7))) else (none)) else (some (0, 0, 0, 0, 0, 0, 6))) else (none))) = some (r1, r2, r3, r4, r5, r6, r7) := h
 clear h
 by_cases c2 : (l0.length : Int) < 28
 · rw [if_pos c2] at H
   have c2b0 : decide ((l0.length : Int) < 28) = true := decide_eq_true c2
   have c2b1 : decide (l0.length < 28) = true := decide_eq_true (by omega)
   clear c2
   simp only [Option.some.injEq, Prod.mk.injEq] at H
   obtain ⟨rfl, rfl, rfl, rfl, rfl, rfl, rfl⟩ := H
   go_enter Tryd.func13, Tryd.ntmps13
   go_wp2_with (first | ((with_reducible refine gate_dst (N := 2) rfl ?_); refine box_event ?hg (N := 2) ?hd (cs := #[.int .i64 0, .int .i64 0, .int .i64 0, .int .i64 0, .int .u64 0, .int .u32 0]) (t := 27) ?hr ?_; (case hd => rfl); (case hg => rfl); (case hr => first | (go_simp; done) | (go_simp; rfl)); intro gb152 hg w3 hbox hb; have n0_ := Aside0.mk (below_step (by repeat (first | (with_reducible first | exact HB.out | apply below_alloc | apply pw_below_drewN | apply below_drew1) | exact HB.out)) hb); have n1_ := Aside0.mk (hbox); have n2_ := Aside0.mk ((by rw [hg]; exact (below_size (by repeat (first | (with_reducible first | exact HB.out | apply below_alloc | apply pw_below_drewN | apply below_drew1) | exact HB.out))) : w.heap.size ≤ gb152)); have n3_ := Aside0.mk ((by rw [hg]; exact (below_size (by repeat (first | (with_reducible first | exact HB.out | apply below_alloc | apply pw_below_drewN | apply below_drew1) | exact HB.out))) : w.heap.size ≤ gb152)); clear HB; have HB := n0_; have BK152 := n1_; have GW152 := n2_; have GE152 := n3_; clear n0_ n1_ n2_ n3_; clear hb hbox hg; have hcz4_0 : w3.cell? ⟨gb152, 0, none⟩ = some (.int .i64 0) := (blk_cell BK152.out 0).trans rfl; have hcz4_1 : w3.cell? ⟨gb152, 1, none⟩ = some (.int .i64 0) := (blk_cell BK152.out 1).trans rfl; have hcz4_2 : w3.cell? ⟨gb152, 2, none⟩ = some (.int .i64 0) := (blk_cell BK152.out 2).trans rfl; have hcz4_3 : w3.cell? ⟨gb152, 3, none⟩ = some (.int .i64 0) := (blk_cell BK152.out 3).trans rfl; have hcz4_4 : w3.cell? ⟨gb152, 4, none⟩ = some (.int .u64 0) := (blk_cell BK152.out 4).trans rfl; have hcz4_5 : w3.cell? ⟨gb152, 5, none⟩ = some (.int .u32 0) := (blk_cell BK152.out 5).trans rfl; have hfz4_0 := blk_frozen BK152.out 0; have hfz4_1 := blk_frozen BK152.out 1; have hfz4_2 := blk_frozen BK152.out 2; have hfz4_3 := blk_frozen BK152.out 3; have hfz4_4 := blk_frozen BK152.out 4; have hfz4_5 := blk_frozen BK152.out 5))
   refine bodyPost_ret (results_ct rfl _ _ gb152 27 #[.int .i64 0, .int .i64 0, .int .i64 0, .int .i64 0, .int .u64 0, .int .u32 0] (0, 0) _ rfl (by (with_reducible repeat (first | refine blk_drewN ?_ _ | refine blk_drew ?_ | refine blk_alloc ?_ _)); refine blk_put (cs := #[.int .i64 0, .int .i64 0, .int .i64 0, .int .i64 0, .int .u64 0, .int .u32 0]) ?_ 5 _ rfl; (with_reducible repeat (first | refine blk_drewN ?_ _ | refine blk_drew ?_ | refine blk_alloc ?_ _)); refine blk_put (cs := #[.int .i64 0, .int .i64 0, .int .i64 0, .int .i64 0, .int .u64 0, .int .u32 0]) ?_ 4 _ rfl; (with_reducible repeat (first | refine blk_drewN ?_ _ | refine blk_drew ?_ | refine blk_alloc ?_ _)); refine blk_put (cs := #[.int .i64 0, .int .i64 0, .int .i64 0, .int .i64 0, .int .u64 0, .int .u32 0]) ?_ 3 _ rfl; (with_reducible repeat (first | refine blk_drewN ?_ _ | refine blk_drew ?_ | refine blk_alloc ?_ _)); refine blk_put (cs := #[.int .i64 0, .int .i64 0, .int .i64 0, .int .i64 0, .int .u64 0, .int .u32 0]) ?_ 2 _ rfl; (with_reducible repeat (first | refine blk_drewN ?_ _ | refine blk_drew ?_ | refine blk_alloc ?_ _)); refine blk_put (cs := #[.int .i64 0, .int .i64 0, .int .i64 0, .int .i64 0, .int .u64 0, .int .u32 0]) ?_ 1 _ rfl; (with_reducible repeat (first | refine blk_drewN ?_ _ | refine blk_drew ?_ | refine blk_alloc ?_ _)); refine blk_put (cs := #[.int .i64 0, .int .i64 0, .int .i64 0, .int .i64 0, .int .u64 0, .int .u32 0]) ?_ 0 _ rfl; (with_reducible repeat (first | refine blk_drewN ?_ _ | refine blk_drew ?_ | refine blk_alloc ?_ _)); exact BK152.out) Tryd.underlying27 rfl (by kernel_rfl)) rfl ?_
   exact ⟨by first | rfl | (simp [errW_none, errW_some] <;> rfl) | (simp [*, errW_none, errW_some] <;> rfl), by repeat (first | (with_reducible first | exact HB.out | apply below_alloc | apply pw_below_drewN | apply below_drew1 | refine below_set ?_ GE152.out) | exact HB.out)⟩
 · rw [if_neg c2] at H
   have c2b0 : decide ((l0.length : Int) < 28) = false := decide_eq_false c2
   have c2b1 : decide (l0.length < 28) = false := decide_eq_false (by omega)
   clear c2
   by_cases c5 : 4 ≤ (l0.length : Int)
   · rw [if_pos c5] at H
     have c5b0 := eq_true c5
     have c5b1 : decide (4 ≤ (l0.length : Int)) = true := decide_eq_true c5
     clear c5
     by_cases c6 : (strOfNums (l0.take 4)).toList = ([75, 69, 69, 80] : List UInt8)
     · rw [if_pos c6] at H
       have c6b0 : ((strOfNums (l0.take 4)).toList == ([75, 69, 69, 80] : List UInt8)) = true := beq_iff_eq.mpr c6
       have c6b1 : ((strOfNums (l0.take 4)).toList != ([75, 69, 69, 80] : List UInt8)) = false := bne_eq_false_iff_eq.mpr c6
       clear c6
       by_cases c7 : 4 < (l0.length : Int)
       · rw [if_pos c7] at H
         have c7b0 : decide (4 < (l0.length : Int)) = true := decide_eq_true c7
         have c7b1 : decide (4 < l0.length) = true := decide_eq_true (by omega)
         clear c7
         by_cases c8 : (rd l0 4) = 1
         · rw [if_pos c8] at H
           have c8b0 : ((rd l0 4) == 1) = true := beq_iff_eq.mpr c8
           have c8b1 : ((rd l0 4) != 1) = false := bne_eq_false_iff_eq.mpr c8
           clear c8
           by_cases c9 : 24 ≤ (l0.length : Int)
           · rw [if_pos c9] at H
             have c9b0 := eq_true c9
             have c9b1 : decide (24 ≤ (l0.length : Int)) = true := decide_eq_true c9
             clear c9
             replace H := Option.bind_eq_some_iff.mp H
             obtain ⟨t156, A100, H⟩ := H
             replace H : (if 24 ≤ 28 then (if 28 ≤ (l0.length : Int) then ((head_take_uint32.f k ((l0.take 28).drop 24)).bind fun t158 => (if t156 = t158 then (if 5 < (l0.length : Int) then (if 6 < (l0.length : Int) then (if 7 < (l0.length : Int) then (if 8 ≤ 12 then (if 12 ≤ (l0.length : Int) then ((head_take_uint32.f k ((l0.take 12).drop 8)).bind fun t163 => (if 12 ≤ 20 then (if 20 ≤ (l0.length : Int) then ((head_take_uint64.f k ((l0.take 20).drop 12)).bind fun t165 => (if 20 ≤ 24 then ((head_take_uint32.f k ((l0.take 24).drop 20)).bind fun t167 => ((head_right.f (wrap64 (rd l0 5)) (wrap64 (rd l0 6)) (wrap64 (rd l0 7)) (wrap64 (t163)) t165 t167).bind fun t169 => (if t169 = true then (some (wrap64 (rd l0 5), wrap64 (rd l0 6), wrap64 (rd l0 7), wrap64 (t163), t165, t167, 0)) else (some (0, 0, 0, 0, 0, 0, 9))))) else (none))) else (none)) else (none))) else (none)) else (none)) else (none)) else (none)) else (none)) else (some (0, 0, 0, 0, 0, 0, 8)))) else (none)) else (none)) = some (r1, r2, r3, r4, r5, r6, r7) := H
             have A10 := Aside0.mk A100
             clear A100
             by_cases c11 : 24 ≤ 28
             · rw [if_pos c11] at H
               have c11b0 := eq_true c11
               have c11b1 : decide (24 ≤ 28) = true := decide_eq_true c11
               clear c11
               by_cases c12 : 28 ≤ (l0.length : Int)
               · rw [if_pos c12] at H
                 have c12b0 := eq_true c12
                 have c12b1 : decide (28 ≤ (l0.length : Int)) = true := decide_eq_true c12
                 clear c12
                 replace H := Option.bind_eq_some_iff.mp H
                 obtain ⟨t158, A130, H⟩ := H
                 replace H : (if t156 = t158 then (if 5 < (l0.length : Int) then (if 6 < (l0.length : Int) then (if 7 < (l0.length : Int) then (if 8 ≤ 12 then (if 12 ≤ (l0.length : Int) then ((head_take_uint32.f k ((l0.take 12).drop 8)).bind fun t163 => (if 12 ≤ 20 then (if 20 ≤ (l0.length : Int) then ((head_take_uint64.f k ((l0.take 20).drop 12)).bind fun t165 => (if 20 ≤ 24 then ((head_take_uint32.f k ((l0.take 24).drop 20)).bind fun t167 => ((head_right.f (wrap64 (rd l0 5)) (wrap64 (rd l0 6)) (wrap64 (rd l0 7)) (wrap64 (t163)) t165 t167).bind fun t169 => (if t169 = true then (some (wrap64 (rd l0 5), wrap64 (rd l0 6), wrap64 (rd l0 7), wrap64 (t163), t165, t167, 0)) else (some (0, 0, 0, 0, 0, 0, 9))))) else (none))) else (none)) else (none))) else (none)) else (none)) else (none)) else (none)) else (none)) else (some (0, 0, 0, 0, 0, 0, 8))) = some (r1, r2, r3, r4, r5, r6, r7) := H
                 have A13 := Aside0.mk A130
                 clear A130
                 by_cases c14 : t156 = t158
                 · rw [if_pos c14] at H
                   have c14b0 : (t156 == t158) = true := beq_iff_eq.mpr c14
                   have c14b1 : (t156 != t158) = false := bne_eq_false_iff_eq.mpr c14
                   clear c14
                   by_cases c15 : 5 < (l0.length : Int)
                   · rw [if_pos c15] at H
                     have c15b0 : decide (5 < (l0.length : Int)) = true := decide_eq_true c15
                     have c15b1 : decide (5 < l0.length) = true := decide_eq_true (by omega)
                     clear c15
                     by_cases c16 : 6 < (l0.length : Int)
                     · rw [if_pos c16] at H
                       have c16b0 : decide (6 < (l0.length : Int)) = true := decide_eq_true c16
                       have c16b1 : decide (6 < l0.length) = true := decide_eq_true (by omega)
                       clear c16
                       by_cases c17 : 7 < (l0.length : Int)
                       · rw [if_pos c17] at H
                         have c17b0 : decide (7 < (l0.length : Int)) = true := decide_eq_true c17
                         have c17b1 : decide (7 < l0.length) = true := decide_eq_true (by omega)
                         clear c17
                         by_cases c18 : 8 ≤ 12
                         · rw [if_pos c18] at H
                           have c18b0 := eq_true c18
                           have c18b1 : decide (8 ≤ 12) = true := decide_eq_true c18
                           clear c18
                           by_cases c19 : 12 ≤ (l0.length : Int)
                           · rw [if_pos c19] at H
                             have c19b0 := eq_true c19
                             have c19b1 : decide (12 ≤ (l0.length : Int)) = true := decide_eq_true c19
                             clear c19
                             replace H := Option.bind_eq_some_iff.mp H
                             obtain ⟨t163, A200, H⟩ := H
                             replace H : (if 12 ≤ 20 then (if 20 ≤ (l0.length : Int) then ((head_take_uint64.f k ((l0.take 20).drop 12)).bind fun t165 => (if 20 ≤ 24 then ((head_take_uint32.f k ((l0.take 24).drop 20)).bind fun t167 => ((head_right.f (wrap64 (rd l0 5)) (wrap64 (rd l0 6)) (wrap64 (rd l0 7)) (wrap64 (t163)) t165 t167).bind fun t169 => (if t169 = true then (some (wrap64 (rd l0 5), wrap64 (rd l0 6), wrap64 (rd l0 7), wrap64 (t163), t165, t167, 0)) else (some (0, 0, 0, 0, 0, 0, 9))))) else (none))) else (none)) else (none)) = some (r1, r2, r3, r4, r5, r6, r7) := H
                             have A20 := Aside0.mk A200
                             clear A200
                             by_cases c21 : 12 ≤ 20
                             · rw [if_pos c21] at H
                               have c21b0 := eq_true c21
                               have c21b1 : decide (12 ≤ 20) = true := decide_eq_true c21
                               clear c21
                               by_cases c22 : 20 ≤ (l0.length : Int)
                               · rw [if_pos c22] at H
                                 have c22b0 := eq_true c22
                                 have c22b1 : decide (20 ≤ (l0.length : Int)) = true := decide_eq_true c22
                                 clear c22
                                 replace H := Option.bind_eq_some_iff.mp H
                                 obtain ⟨t165, A230, H⟩ := H
                                 replace H : (if 20 ≤ 24 then ((head_take_uint32.f k ((l0.take 24).drop 20)).bind fun t167 => ((head_right.f (wrap64 (rd l0 5)) (wrap64 (rd l0 6)) (wrap64 (rd l0 7)) (wrap64 (t163)) t165 t167).bind fun t169 => (if t169 = true then (some (wrap64 (rd l0 5), wrap64 (rd l0 6), wrap64 (rd l0 7), wrap64 (t163), t165, t167, 0)) else (some (0, 0, 0, 0, 0, 0, 9))))) else (none)) = some (r1, r2, r3, r4, r5, r6, r7) := H
                                 have A23 := Aside0.mk A230
                                 clear A230
                                 by_cases c24 : 20 ≤ 24
                                 · rw [if_pos c24] at H
                                   have c24b0 := eq_true c24
                                   have c24b1 : decide (20 ≤ 24) = true := decide_eq_true c24
                                   clear c24
                                   have c25b0 := eq_true (of_decide_eq_true (by first | (with_reducible assumption) | assumption) : 24 ≤ (l0.length : Int))
                                   replace H := Option.bind_eq_some_iff.mp H
                                   obtain ⟨t167, A260, H⟩ := H
                                   replace H : ((head_right.f (wrap64 (rd l0 5)) (wrap64 (rd l0 6)) (wrap64 (rd l0 7)) (wrap64 (t163)) t165 t167).bind fun t169 => (if t169 = true then (some (wrap64 (rd l0 5), wrap64 (rd l0 6), wrap64 (rd l0 7), wrap64 (t163), t165, t167, 0)) else (some (0, 0, 0, 0, 0, 0, 9)))) = some (r1, r2, r3, r4, r5, r6, r7) := H
                                   have A26 := Aside0.mk A260
                                   clear A260
                                   replace H := Option.bind_eq_some_iff.mp H
                                   obtain ⟨t169, A270, H⟩ := H
                                   replace H : (if t169 = true then (some (wrap64 (rd l0 5), wrap64 (rd l0 6), wrap64 (rd l0 7), wrap64 (t163), t165, t167, 0)) else (some (0, 0, 0, 0, 0, 0, 9))) = some (r1, r2, r3, r4, r5, r6, r7) := H
                                   have A27 := Aside0.mk A270
                                   clear A270
                                   by_cases c28 : t169 = true
                                   · subst c28
                                     have H1 : (some (wrap64 (rd l0 5), wrap64 (rd l0 6), wrap64 (rd l0 7), wrap64 (t163), t165, t167, 0)) = some (r1, r2, r3, r4, r5, r6, r7) := by rw [if_pos rfl] at H; exact H
                                     clear H
                                     have H := H1
                                     clear H1
                                     simp only [Option.some.injEq, Prod.mk.injEq] at H
                                     obtain ⟨rfl, rfl, rfl, rfl, rfl, rfl, rfl⟩ := H
                                     go_enter Tryd.func13, Tryd.ntmps13
                                     try go_wp2_with (first | ((with_reducible refine gate_dst (N := 2) rfl ?_); refine box_event ?hg (N := 2) ?hd (cs := #[.int .i64 0, .int .i64 0, .int .i64 0, .int .i64 0, .int .u64 0, .int .u32 0]) (t := 27) ?hr ?_; (case hd => rfl); (case hg => rfl); (case hr => first | (go_simp; done) | (go_simp; rfl)); intro gb152 hg w29 hbox hb; have n0_ := Aside0.mk (below_step (by repeat (first | (with_reducible first | exact HB.out | apply below_alloc | apply pw_below_drewN | apply below_drew1) | exact HB.out)) hb); have n1_ := Aside0.mk (hbox); have n2_ := Aside0.mk ((by rw [hg]; exact (below_size (by repeat (first | (with_reducible first | exact HB.out | apply below_alloc | apply pw_below_drewN | apply below_drew1) | exact HB.out))) : w.heap.size ≤ gb152)); have n3_ := Aside0.mk ((by rw [hg]; exact (below_size (by repeat (first | (with_reducible first | exact HB.out | apply below_alloc | apply pw_below_drewN | apply below_drew1) | exact HB.out))) : w.heap.size ≤ gb152)); clear HB; have HB := n0_; have BK152 := n1_; have GW152 := n2_; have GE152 := n3_; clear n0_ n1_ n2_ n3_; clear hb hbox hg; obtain ⟨i030, hi030, _, hsz30, _⟩ := info_parts info5; obtain ⟨hcut30, hA30, hC30⟩ := print_take_of (P := Tryd.prog) (Value.int .u8) 0 29 5 .i64 Tryd.underlying29 hi030 hsz30 A0 c0 l0 4 (by omega) (of_decide_eq_true (by first | (with_reducible assumption) | assumption)) HC0.out; have HR153 := Aside0.mk (Kd.C_of_reads (h1 := fun _ => rfl) (hA30 _ (Kd.reads_of_C HR0.out))); have HC153 := Aside0.mk hC30; clear hA30 hC30 hi030 hsz30; have hcv31 := Kd.C_string (P := Tryd.prog) (A := A0) (c := c0) Tryd.underlying29 Tryd.underlying5 Tryd.underlying9 (Kd.C_below HR153.out HB.out); (try simp only [List.length_take, Int.reduceToNat] at hcv31); have p154 : 0 ≤ (4 : Int) := (by omega); have q154 : 4 < (l0.length : Int) := of_decide_eq_true (by first | (with_reducible assumption) | assumption); obtain ⟨ad154, e154, hx154_0⟩ := Kd.at_int HR0.out 4 p154 q154; cases e154; (try simp only [show (4 : Int).toNat = 4 from rfl, Nat.reduceMul, Nat.reduceEqDiff, Go.Addr.add, ↓reduceIte] at hx154_0); have qi154 : (4 < l0.length) = True := eq_true (by omega); (try rw [show ((4 : Int)).toNat = 4 from rfl] at hx154_0); replace hx154_0 := (HB.out.cell (World.block_lt_of_cell? w _ hx154_0)).trans hx154_0; replace p154 := eq_true p154; replace q154 := eq_true q154))
                                     have n0_ := Aside0.mk (blk_drew BK152.out)
                                     have n1_ := Aside0.mk (below_drew1 HB.out)
                                     clear BK152
                                     clear HB
                                     have BK152 := n0_
                                     have HB := n1_
                                     clear n0_ n1_
                                     obtain ⟨i033, hi033, _, hsz33, _⟩ := info_parts info5
                                     obtain ⟨hcut33, hA33, hC33⟩ := print_take_of (P := Tryd.prog) (Value.int .u8) 0 29 5 .i64 Tryd.underlying29 hi033 hsz33 (some ad154) c0 l0 24 (by omega) (of_decide_eq_true (by first | (with_reducible assumption) | assumption)) HC0.out
                                     have HR155 := Aside0.mk (Kd.C_of_reads (h1 := fun _ => rfl) (hA33 _ (Kd.reads_of_C HR0.out)))
                                     have HC155 := Aside0.mk hC33
                                     clear hA33 hC33 hi033 hsz33
                                     obtain ⟨i034, hi034, _, hsz34, _⟩ := info_parts info5
                                     obtain ⟨A34, hcut34, hA34, hC34⟩ := print_mid_of (P := Tryd.prog) (Value.int .u8) 0 29 5 .i64 .i64 Tryd.underlying29 hi034 hsz34 (some ad154) c0 l0 24 28 (by omega) (by first | omega | exact of_decide_eq_true (by first | (with_reducible assumption) | assumption)) (of_decide_eq_true (by first | (with_reducible assumption) | assumption)) HC0.out
                                     have HR157 := Aside0.mk (Kd.C_of_reads (h1 := fun _ => rfl) (hA34 _ (Kd.reads_of_C HR0.out)))
                                     have HC157 := Aside0.mk hC34
                                     clear hA34 hC34 hi034 hsz34
                                     refine start_ (n := 8) (S := fun w' => True) (ds := []) #[false, false, false, false, false, false, false, false] (by kernel_rfl) rfl rfl trivial (fun hHeld => ?_); refine with_tabW head_Decode.tab7 head_Decode.bits7 (fun HT_ HW_ => ?_)
                                     generalize w29.drew = w32 at BK152 HB HR155 HR157 hHeld ⊢
                                     refine pure_ (i := 0) (N := some 23) (v := ?_) (a' := ?_) #[true, false, false, false, false, false, false, false] rfl rfl (any_of HT_.out (by kernel_rfl)) (fun _ _ _ h => h) (Or.inl ⟨by rfl, ?_⟩) ?_ ?_
                                     rotate_left
                                     · intro w'
                                       go_simp
                                       with_reducible rfl
                                     rotate_left
                                     · simp only [Act.put, List.setIfInBounds_toArray, List.set_cons_zero, List.set_cons_succ, i64_w, i32_w]
                                       rfl
                                     refine pure_ (i := 1) (N := some 24) (v := ?_) (a' := ?_) #[true, true, false, false, false, false, false, false] rfl rfl (any_of HT_.out (by kernel_rfl)) (fun _ _ _ h => h) (Or.inl ⟨by rfl, ?_⟩) ?_ ?_
                                     rotate_left
                                     · intro w'
                                       go_simp
                                       with_reducible rfl
                                     rotate_left
                                     · simp only [Act.put, List.setIfInBounds_toArray, List.set_cons_zero, List.set_cons_succ, i64_w, i32_w]
                                       rfl
                                     refine pure_ (i := 3) (N := some 26) (v := ?_) (a' := ?_) #[true, true, false, true, false, false, false, false] rfl rfl (any_of HT_.out (by kernel_rfl)) (fun _ _ _ h => h) (Or.inl ⟨by rfl, ?_⟩) ?_ ?_
                                     rotate_left
                                     · intro w'
                                       go_simp
                                       with_reducible rfl
                                     rotate_left
                                     · simp only [Act.put, List.setIfInBounds_toArray, List.set_cons_zero, List.set_cons_succ, i64_w, i32_w]
                                       rfl
                                     refine pure_ (i := 4) (N := some 27) (v := ?_) (a' := ?_) #[true, true, false, true, true, false, false, false] rfl rfl (any_of HT_.out (by kernel_rfl)) (fun _ _ _ h => h) (Or.inl ⟨by rfl, ?_⟩) ?_ ?_
                                     rotate_left
                                     · intro w'
                                       go_simp
                                       with_reducible rfl
                                     rotate_left
                                     · simp only [Act.put, List.setIfInBounds_toArray, List.set_cons_zero, List.set_cons_succ, i64_w, i32_w]
                                       rfl
                                     refine one_ (i := 2) (N := some 25) #[true, true, true, true, true, false, false, false] rfl rfl (one_of HT_.out (by kernel_rfl)) (by decide) (fun K hK => ?_)
                                     refine goes_ Tryd.func16 (by kernel_rfl) rfl #[.slice (some ad154) (l0.take 24).length c0] (by rfl) rfl rfl (by (try simp only [List.map_toArray, List.map_cons, List.map_nil]); first | done | (rw [show (l0.take 24).length = 24 from (by rw [List.length_take]; have h_ : (24 : Int) ≤ (l0.length : Int) := of_decide_eq_true (by first | (with_reducible assumption) | assumption); omega)] <;> rfl) | rfl | (simp only [List.length_drop, List.length_take]; rfl)) ?_
                                     with_reducible refine (crc_Sum.calls k _ _ (l0.take 24) t156 _ ?side1 ?side2 A10.out).mono ?_
                                     (case side1 => repeat (first | exact (Kd.C_below HR155.out HB.out) | (with_reducible refine Kd.C_alloc ?_ _) | (with_reducible refine Kd.C_drewN ?_ _) | (with_reducible refine Kd.C_drew ?_)))
                                     (case side2 => exact HC155.out)
                                     rintro e w' ⟨rfl, ⟨nd, rfl⟩⟩
                                     refine ⟨_, rfl, ?_⟩
                                     refine hK.out _ _ trivial (fun hHeld => ?_)
                                     clear hK K
                                     refine norm_ (a' := ?_) ?_ ?_
                                     rotate_left
                                     · show Act.put _ (some 25) _ = _
                                       simp only [Act.put, List.setIfInBounds_toArray, List.set_cons_zero, List.set_cons_succ, i64_w, i32_w]
                                       rfl
                                     refine one_ (i := 5) (N := some 28) #[true, true, true, true, true, true, false, false] rfl rfl (one_of HT_.out (by kernel_rfl)) (by decide) (fun K hK => ?_)
                                     refine goes_ Tryd.func25 (by kernel_rfl) rfl #[.slice A34 ((l0.take 28).drop 24).length (c0 - 24)] (by rfl) rfl rfl (by (try simp only [List.map_toArray, List.map_cons, List.map_nil]); first | done | (rw [show ((l0.take 28).drop 24).length = (28 - 24) from (by rw [List.length_drop, List.length_take]; have h_ : (28 : Int) ≤ (l0.length : Int) := of_decide_eq_true (by first | (with_reducible assumption) | assumption); omega)] <;> rfl) | rfl | (simp only [List.length_drop, List.length_take]; rfl)) ?_
                                     with_reducible refine (head_take_uint32.calls k _ _ ((l0.take 28).drop 24) t158 _ ?side1 ?side2 A13.out).mono ?_
                                     (case side1 => repeat (first | exact (Kd.C_below HR157.out (by repeat (first | (with_reducible first | exact HB.out | apply below_alloc | apply pw_below_drewN | apply below_drew1 | refine below_set ?_ GE152.out) | exact HB.out))) | (with_reducible refine Kd.C_alloc ?_ _) | (with_reducible refine Kd.C_drewN ?_ _) | (with_reducible refine Kd.C_drew ?_)))
                                     (case side2 => exact HC157.out)
                                     rintro e w' ⟨rfl, ⟨nd, rfl⟩⟩
                                     refine ⟨_, rfl, ?_⟩
                                     refine hK.out _ _ trivial (fun hHeld => ?_)
                                     clear hK K
                                     refine norm_ (a' := ?_) ?_ ?_
                                     rotate_left
                                     · show Act.put _ (some 28) _ = _
                                       simp only [Act.put, List.setIfInBounds_toArray, List.set_cons_zero, List.set_cons_succ, i64_w, i32_w]
                                       rfl
                                     refine pure_ (i := 6) (N := some 29) (v := ?_) (a' := ?_) #[true, true, true, true, true, true, true, false] rfl rfl (any_of HT_.out (by kernel_rfl)) (fun _ _ _ h => h) (Or.inl ⟨by rfl, ?_⟩) ?_ ?_
                                     rotate_left
                                     · intro w'
                                       go_simp
                                       with_reducible rfl
                                     rotate_left
                                     · simp only [Act.put, List.setIfInBounds_toArray, List.set_cons_zero, List.set_cons_succ, i64_w, i32_w]
                                       rfl
                                     refine pure_ (i := 7) (N := some 22) (v := ?_) (a' := ?_) #[true, true, true, true, true, true, true, true] rfl rfl (any_of HT_.out (by kernel_rfl)) (fun _ _ _ h => h) (Or.inl ⟨by rfl, ?_⟩) ?_ ?_
                                     rotate_left
                                     · intro w'
                                       go_simp
                                       with_reducible rfl
                                     rotate_left
                                     · simp only [Act.put, List.setIfInBounds_toArray, List.set_cons_zero, List.set_cons_succ, i64_w, i32_w]
                                       rfl
                                     refine done_ (done_of HT_.out (by kernel_rfl)) ?_
                                     try go_wp2
                                     (try (rw [drewN_self w32]; generalize hq_ : World.drewN w32 _ = w32; have n0_ : Aside0 (w32.heap[gb152]? = some (.cells #[.int .i64 0, .int .i64 0, .int .i64 0, .int .i64 0, .int .u64 0, .int .u32 0] 27 (0, 0))) := ⟨by rw [← hq_]; exact (by (with_reducible repeat (first | refine blk_drewN ?_ _ | refine blk_drew ?_ | refine blk_alloc ?_ _)); exact BK152.out)⟩; have n1_ : Aside0 (Below w.heap.size w w32) := ⟨by rw [← hq_]; exact (by repeat (first | (with_reducible first | exact HB.out | apply below_alloc | apply pw_below_drewN | apply below_drew1 | refine below_set ?_ GE152.out) | exact HB.out))⟩; clear BK152 HB hq_; have BK152 := n0_; have HB := n1_; clear n0_ n1_))
                                     (try (rw [drewN_self w32]; generalize hq_ : World.drewN w32 _ = w32; have n0_ : Aside0 (w32.heap[gb152]? = some (.cells #[.int .i64 0, .int .i64 0, .int .i64 0, .int .i64 0, .int .u64 0, .int .u32 0] 27 (0, 0))) := ⟨by rw [← hq_]; exact (by (with_reducible repeat (first | refine blk_drewN ?_ _ | refine blk_drew ?_ | refine blk_alloc ?_ _)); exact BK152.out)⟩; have n1_ : Aside0 (Below w.heap.size w w32) := ⟨by rw [← hq_]; exact (by repeat (first | (with_reducible first | exact HB.out | apply below_alloc | apply pw_below_drewN | apply below_drew1 | refine below_set ?_ GE152.out) | exact HB.out))⟩; clear BK152 HB hq_; have BK152 := n0_; have HB := n1_; clear n0_ n1_))
                                     have n0_ := Aside0.mk (blk_drew BK152.out)
                                     have n1_ := Aside0.mk (below_drew1 HB.out)
                                     clear BK152
                                     clear HB
                                     have BK152 := n0_
                                     have HB := n1_
                                     clear n0_ n1_
                                     have p159 : 0 ≤ (5 : Int) := (by omega)
                                     have q159 : 5 < (l0.length : Int) := of_decide_eq_true (by first | (with_reducible assumption) | assumption)
                                     obtain ⟨ad159, e159, hx159_0⟩ := Kd.at_int HR0.out 5 p159 q159
                                     have hw159_0 := hx159_0
                                     (try rw [show ((5 : Int)).toNat = 5 from rfl] at hw159_0)
                                     (try rw [show 5 * 1 = 5 from rfl] at hw159_0)
                                     (try simp only [Nat.reduceMul, Nat.reduceEqDiff, Go.Addr.add, ↓reduceIte] at hw159_0)
                                     obtain rfl : ad154 = ad159 := (by injection e159)
                                     (try simp only [show (5 : Int).toNat = 5 from rfl, Nat.reduceMul, Nat.reduceEqDiff, Go.Addr.add, ↓reduceIte] at hx159_0)
                                     have qi159 : (5 < l0.length) = True := eq_true (by omega)
                                     (try rw [show ((5 : Int)).toNat = 5 from rfl] at hx159_0)
                                     replace hx159_0 := (HB.out.cell (World.block_lt_of_cell? w _ hx159_0)).trans hx159_0
                                     replace p159 := eq_true p159
                                     replace q159 := eq_true q159
                                     have p160 : 0 ≤ (6 : Int) := (by omega)
                                     have q160 : 6 < (l0.length : Int) := of_decide_eq_true (by first | (with_reducible assumption) | assumption)
                                     obtain ⟨ad160, e160, hx160_0⟩ := Kd.at_int HR0.out 6 p160 q160
                                     have hw160_0 := hx160_0
                                     (try rw [show ((6 : Int)).toNat = 6 from rfl] at hw160_0)
                                     (try rw [show 6 * 1 = 6 from rfl] at hw160_0)
                                     (try simp only [Nat.reduceMul, Nat.reduceEqDiff, Go.Addr.add, ↓reduceIte] at hw160_0)
                                     obtain rfl : ad154 = ad160 := (by injection e160)
                                     (try simp only [show (6 : Int).toNat = 6 from rfl, Nat.reduceMul, Nat.reduceEqDiff, Go.Addr.add, ↓reduceIte] at hx160_0)
                                     have qi160 : (6 < l0.length) = True := eq_true (by omega)
                                     (try rw [show ((6 : Int)).toNat = 6 from rfl] at hx160_0)
                                     replace hx160_0 := (HB.out.cell (World.block_lt_of_cell? w _ hx160_0)).trans hx160_0
                                     replace p160 := eq_true p160
                                     replace q160 := eq_true q160
                                     have p161 : 0 ≤ (7 : Int) := (by omega)
                                     have q161 : 7 < (l0.length : Int) := of_decide_eq_true (by first | (with_reducible assumption) | assumption)
                                     obtain ⟨ad161, e161, hx161_0⟩ := Kd.at_int HR0.out 7 p161 q161
                                     have hw161_0 := hx161_0
                                     (try rw [show ((7 : Int)).toNat = 7 from rfl] at hw161_0)
                                     (try rw [show 7 * 1 = 7 from rfl] at hw161_0)
                                     (try simp only [Nat.reduceMul, Nat.reduceEqDiff, Go.Addr.add, ↓reduceIte] at hw161_0)
                                     obtain rfl : ad154 = ad161 := (by injection e161)
                                     (try simp only [show (7 : Int).toNat = 7 from rfl, Nat.reduceMul, Nat.reduceEqDiff, Go.Addr.add, ↓reduceIte] at hx161_0)
                                     have qi161 : (7 < l0.length) = True := eq_true (by omega)
                                     (try rw [show ((7 : Int)).toNat = 7 from rfl] at hx161_0)
                                     replace hx161_0 := (HB.out.cell (World.block_lt_of_cell? w _ hx161_0)).trans hx161_0
                                     replace p161 := eq_true p161
                                     replace q161 := eq_true q161
                                     obtain ⟨i036, hi036, _, hsz36, _⟩ := info_parts info5
                                     obtain ⟨A36, hcut36, hA36, hC36⟩ := print_mid_of (P := Tryd.prog) (Value.int .u8) 0 29 5 .i64 .i64 Tryd.underlying29 hi036 hsz36 (some ad154) c0 l0 8 12 (by omega) (by first | omega | exact of_decide_eq_true (by first | (with_reducible assumption) | assumption)) (of_decide_eq_true (by first | (with_reducible assumption) | assumption)) HC0.out
                                     have HR162 := Aside0.mk (Kd.C_of_reads (h1 := fun _ => rfl) (hA36 _ (Kd.reads_of_C HR0.out)))
                                     have HC162 := Aside0.mk hC36
                                     clear hA36 hC36 hi036 hsz36
                                     obtain ⟨i037, hi037, _, hsz37, _⟩ := info_parts info5
                                     obtain ⟨A37, hcut37, hA37, hC37⟩ := print_mid_of (P := Tryd.prog) (Value.int .u8) 0 29 5 .i64 .i64 Tryd.underlying29 hi037 hsz37 (some ad154) c0 l0 12 20 (by omega) (by first | omega | exact of_decide_eq_true (by first | (with_reducible assumption) | assumption)) (of_decide_eq_true (by first | (with_reducible assumption) | assumption)) HC0.out
                                     have HR164 := Aside0.mk (Kd.C_of_reads (h1 := fun _ => rfl) (hA37 _ (Kd.reads_of_C HR0.out)))
                                     have HC164 := Aside0.mk hC37
                                     clear hA37 hC37 hi037 hsz37
                                     obtain ⟨i038, hi038, _, hsz38, _⟩ := info_parts info5
                                     obtain ⟨A38, hcut38, hA38, hC38⟩ := print_mid_of (P := Tryd.prog) (Value.int .u8) 0 29 5 .i64 .i64 Tryd.underlying29 hi038 hsz38 (some ad154) c0 l0 20 24 (by omega) (by first | omega | exact of_decide_eq_true (by first | (with_reducible assumption) | assumption)) (of_decide_eq_true (by first | (with_reducible assumption) | assumption)) HC0.out
                                     have HR166 := Aside0.mk (Kd.C_of_reads (h1 := fun _ => rfl) (hA38 _ (Kd.reads_of_C HR0.out)))
                                     have HC166 := Aside0.mk hC38
                                     clear hA38 hC38 hi038 hsz38
                                     refine start_ (n := 26) (S := fun w' => w'.cell? ⟨ad154.block, ad154.off + 5, none⟩ = some (.int .u8 (rd l0 5)) ∧ w'.cell? ⟨ad154.block, ad154.off + 6, none⟩ = some (.int .u8 (rd l0 6)) ∧ w'.cell? ⟨ad154.block, ad154.off + 7, none⟩ = some (.int .u8 (rd l0 7))) (ds := []) #[false, false, false, false, false, false, false, false, false, false, false, false, false, false, false, false, false, false, false, false, false, false, false, false, false, false] (by kernel_rfl) rfl rfl ⟨((HB.out.cell (World.block_lt_of_cell? w _ hw159_0)).trans hw159_0), ((HB.out.cell (World.block_lt_of_cell? w _ hw160_0)).trans hw160_0), ((HB.out.cell (World.block_lt_of_cell? w _ hw161_0)).trans hw161_0)⟩ (fun hHeld => ?_); refine with_tabW head_Decode.tab9 head_Decode.bits9 (fun HT_ HW_ => ?_)
                                     generalize w32.drew = w35 at BK152 HB HR162 HR164 HR166 hx159_0 hx160_0 hx161_0 hHeld ⊢
                                     refine pure_ (i := 0) (N := some 31) (v := ?_) (a' := ?_) #[true, false, false, false, false, false, false, false, false, false, false, false, false, false, false, false, false, false, false, false, false, false, false, false, false, false] rfl rfl (any_of HT_.out (by kernel_rfl)) (fun _ _ _ h => h) (Or.inl ⟨by rfl, ?_⟩) ?_ ?_
                                     rotate_left
                                     · intro w'
                                       go_simp
                                       with_reducible rfl
                                     rotate_left
                                     · simp only [Act.put, List.setIfInBounds_toArray, List.set_cons_zero, List.set_cons_succ, i64_w, i32_w]
                                       rfl
                                     refine pure_ (i := 1) (N := some 32) (v := ?_) (a' := ?_) #[true, true, false, false, false, false, false, false, false, false, false, false, false, false, false, false, false, false, false, false, false, false, false, false, false, false] rfl rfl (any_of HT_.out (by kernel_rfl)) (fun _ _ _ h => h) (Or.inl ⟨by rfl, ?_⟩) ?_ ?_
                                     rotate_left
                                     · intro w'
                                       go_simp
                                       with_reducible rfl
                                     rotate_left
                                     · simp only [Act.put, List.setIfInBounds_toArray, List.set_cons_zero, List.set_cons_succ, i64_w, i32_w]
                                       rfl
                                     refine pure_ (i := 4) (N := some 35) (v := ?_) (a' := ?_) #[true, true, false, false, true, false, false, false, false, false, false, false, false, false, false, false, false, false, false, false, false, false, false, false, false, false] rfl rfl (any_of HT_.out (by kernel_rfl)) (fun _ _ _ h => h) (Or.inl ⟨by rfl, ?_⟩) ?_ ?_
                                     rotate_left
                                     · intro w'
                                       go_simp
                                       with_reducible rfl
                                     rotate_left
                                     · simp only [Act.put, List.setIfInBounds_toArray, List.set_cons_zero, List.set_cons_succ, i64_w, i32_w]
                                       rfl
                                     refine pure_ (i := 5) (N := some 36) (v := ?_) (a' := ?_) #[true, true, false, false, true, true, false, false, false, false, false, false, false, false, false, false, false, false, false, false, false, false, false, false, false, false] rfl rfl (any_of HT_.out (by kernel_rfl)) (fun _ _ _ h => h) (Or.inl ⟨by rfl, ?_⟩) ?_ ?_
                                     rotate_left
                                     · intro w'
                                       go_simp
                                       with_reducible rfl
                                     rotate_left
                                     · simp only [Act.put, List.setIfInBounds_toArray, List.set_cons_zero, List.set_cons_succ, i64_w, i32_w]
                                       rfl
                                     refine pure_ (i := 8) (N := some 39) (v := ?_) (a' := ?_) #[true, true, false, false, true, true, false, false, true, false, false, false, false, false, false, false, false, false, false, false, false, false, false, false, false, false] rfl rfl (any_of HT_.out (by kernel_rfl)) (fun _ _ _ h => h) (Or.inl ⟨by rfl, ?_⟩) ?_ ?_
                                     rotate_left
                                     · intro w'
                                       go_simp
                                       with_reducible rfl
                                     rotate_left
                                     · simp only [Act.put, List.setIfInBounds_toArray, List.set_cons_zero, List.set_cons_succ, i64_w, i32_w]
                                       rfl
                                     refine pure_ (i := 9) (N := some 40) (v := ?_) (a' := ?_) #[true, true, false, false, true, true, false, false, true, true, false, false, false, false, false, false, false, false, false, false, false, false, false, false, false, false] rfl rfl (any_of HT_.out (by kernel_rfl)) (fun _ _ _ h => h) (Or.inl ⟨by rfl, ?_⟩) ?_ ?_
                                     rotate_left
                                     · intro w'
                                       go_simp
                                       with_reducible rfl
                                     rotate_left
                                     · simp only [Act.put, List.setIfInBounds_toArray, List.set_cons_zero, List.set_cons_succ, i64_w, i32_w]
                                       rfl
                                     refine pure_ (i := 13) (N := some 44) (v := ?_) (a' := ?_) #[true, true, false, false, true, true, false, false, true, true, false, false, false, true, false, false, false, false, false, false, false, false, false, false, false, false] rfl rfl (any_of HT_.out (by kernel_rfl)) (fun _ _ _ h => h) (Or.inl ⟨by rfl, ?_⟩) ?_ ?_
                                     rotate_left
                                     · intro w'
                                       go_simp
                                       with_reducible rfl
                                     rotate_left
                                     · simp only [Act.put, List.setIfInBounds_toArray, List.set_cons_zero, List.set_cons_succ, i64_w, i32_w]
                                       rfl
                                     refine pure_ (i := 14) (N := some 45) (v := ?_) (a' := ?_) #[true, true, false, false, true, true, false, false, true, true, false, false, false, true, true, false, false, false, false, false, false, false, false, false, false, false] rfl rfl (any_of HT_.out (by kernel_rfl)) (fun _ _ _ h => h) (Or.inl ⟨by rfl, ?_⟩) ?_ ?_
                                     rotate_left
                                     · intro w'
                                       go_simp
                                       with_reducible rfl
                                     rotate_left
                                     · simp only [Act.put, List.setIfInBounds_toArray, List.set_cons_zero, List.set_cons_succ, i64_w, i32_w]
                                       rfl
                                     refine pure_ (i := 17) (N := some 48) (v := ?_) (a' := ?_) #[true, true, false, false, true, true, false, false, true, true, false, false, false, true, true, false, false, true, false, false, false, false, false, false, false, false] rfl rfl (any_of HT_.out (by kernel_rfl)) (fun _ _ _ h => h) (Or.inl ⟨by rfl, ?_⟩) ?_ ?_
                                     rotate_left
                                     · intro w'
                                       go_simp
                                       with_reducible rfl
                                     rotate_left
                                     · simp only [Act.put, List.setIfInBounds_toArray, List.set_cons_zero, List.set_cons_succ, i64_w, i32_w]
                                       rfl
                                     refine pure_ (i := 18) (N := some 49) (v := ?_) (a' := ?_) #[true, true, false, false, true, true, false, false, true, true, false, false, false, true, true, false, false, true, true, false, false, false, false, false, false, false] rfl rfl (any_of HT_.out (by kernel_rfl)) (fun _ _ _ h => h) (Or.inl ⟨by rfl, ?_⟩) ?_ ?_
                                     rotate_left
                                     · intro w'
                                       go_simp
                                       with_reducible rfl
                                     rotate_left
                                     · simp only [Act.put, List.setIfInBounds_toArray, List.set_cons_zero, List.set_cons_succ, i64_w, i32_w]
                                       rfl
                                     refine pure_ (i := 20) (N := some 51) (v := ?_) (a' := ?_) #[true, true, false, false, true, true, false, false, true, true, false, false, false, true, true, false, false, true, true, false, true, false, false, false, false, false] rfl rfl (any_of HT_.out (by kernel_rfl)) (fun _ _ _ h => h) (Or.inl ⟨by rfl, ?_⟩) ?_ ?_
                                     rotate_left
                                     · intro w'
                                       go_simp
                                       with_reducible rfl
                                     rotate_left
                                     · simp only [Act.put, List.setIfInBounds_toArray, List.set_cons_zero, List.set_cons_succ, i64_w, i32_w]
                                       rfl
                                     refine pure_ (i := 21) (N := some 52) (v := ?_) (a' := ?_) #[true, true, false, false, true, true, false, false, true, true, false, false, false, true, true, false, false, true, true, false, true, true, false, false, false, false] rfl rfl (any_of HT_.out (by kernel_rfl)) (fun _ _ _ h => h) (Or.inl ⟨by rfl, ?_⟩) ?_ ?_
                                     rotate_left
                                     · intro w'
                                       go_simp
                                       with_reducible rfl
                                     rotate_left
                                     · simp only [Act.put, List.setIfInBounds_toArray, List.set_cons_zero, List.set_cons_succ, i64_w, i32_w]
                                       rfl
                                     refine take_ (i := 2) (N := some 33) (v := ?_) (a' := ?_) #[true, true, true, false, true, true, false, false, true, true, false, false, false, true, true, false, false, true, true, false, true, true, false, false, false, false] rfl rfl (take_ofW HT_.out HW_.out (by kernel_rfl)) (fun _ _ _ h => h) (Or.inl ⟨by rfl, ?_⟩) hHeld ?_ ?_
                                     rotate_left
                                     · rintro w' ⟨s0, s1, s2⟩
                                       go_simp
                                       with_reducible rfl
                                     rotate_left
                                     · simp only [Act.put, List.setIfInBounds_toArray, List.set_cons_zero, List.set_cons_succ, i64_w, i32_w]
                                       rfl
                                     refine pure_ (i := 3) (N := some 34) (v := ?_) (a' := ?_) #[true, true, true, true, true, true, false, false, true, true, false, false, false, true, true, false, false, true, true, false, true, true, false, false, false, false] rfl rfl (any_of HT_.out (by kernel_rfl)) (fun _ _ _ h => h) (Or.inl ⟨by rfl, ?_⟩) ?_ ?_
                                     rotate_left
                                     · intro w'
                                       go_simp
                                       with_reducible rfl
                                     rotate_left
                                     · simp only [Act.put, List.setIfInBounds_toArray, List.set_cons_zero, List.set_cons_succ, i64_w, i32_w]
                                       rfl
                                     refine take_ (i := 6) (N := some 37) (v := ?_) (a' := ?_) #[true, true, true, true, true, true, true, false, true, true, false, false, false, true, true, false, false, true, true, false, true, true, false, false, false, false] rfl rfl (take_ofW HT_.out HW_.out (by kernel_rfl)) (fun _ _ _ h => h) (Or.inl ⟨by rfl, ?_⟩) hHeld ?_ ?_
                                     rotate_left
                                     · rintro w' ⟨s0, s1, s2⟩
                                       go_simp
                                       with_reducible rfl
                                     rotate_left
                                     · simp only [Act.put, List.setIfInBounds_toArray, List.set_cons_zero, List.set_cons_succ, i64_w, i32_w]
                                       rfl
                                     refine pure_ (i := 7) (N := some 38) (v := ?_) (a' := ?_) #[true, true, true, true, true, true, true, true, true, true, false, false, false, true, true, false, false, true, true, false, true, true, false, false, false, false] rfl rfl (any_of HT_.out (by kernel_rfl)) (fun _ _ _ h => h) (Or.inl ⟨by rfl, ?_⟩) ?_ ?_
                                     rotate_left
                                     · intro w'
                                       go_simp
                                       with_reducible rfl
                                     rotate_left
                                     · simp only [Act.put, List.setIfInBounds_toArray, List.set_cons_zero, List.set_cons_succ, i64_w, i32_w]
                                       rfl
                                     refine take_ (i := 10) (N := some 41) (v := ?_) (a' := ?_) #[true, true, true, true, true, true, true, true, true, true, true, false, false, true, true, false, false, true, true, false, true, true, false, false, false, false] rfl rfl (take_ofW HT_.out HW_.out (by kernel_rfl)) (fun _ _ _ h => h) (Or.inl ⟨by rfl, ?_⟩) hHeld ?_ ?_
                                     rotate_left
                                     · rintro w' ⟨s0, s1, s2⟩
                                       go_simp
                                       with_reducible rfl
                                     rotate_left
                                     · simp only [Act.put, List.setIfInBounds_toArray, List.set_cons_zero, List.set_cons_succ, i64_w, i32_w]
                                       rfl
                                     refine pure_ (i := 11) (N := some 42) (v := ?_) (a' := ?_) #[true, true, true, true, true, true, true, true, true, true, true, true, false, true, true, false, false, true, true, false, true, true, false, false, false, false] rfl rfl (any_of HT_.out (by kernel_rfl)) (fun _ _ _ h => h) (Or.inl ⟨by rfl, ?_⟩) ?_ ?_
                                     rotate_left
                                     · intro w'
                                       go_simp
                                       with_reducible rfl
                                     rotate_left
                                     · simp only [Act.put, List.setIfInBounds_toArray, List.set_cons_zero, List.set_cons_succ, i64_w, i32_w]
                                       rfl
                                     refine pure_ (i := 12) (N := some 43) (v := ?_) (a' := ?_) #[true, true, true, true, true, true, true, true, true, true, true, true, true, true, true, false, false, true, true, false, true, true, false, false, false, false] rfl rfl (any_of HT_.out (by kernel_rfl)) (fun _ _ _ h => h) (Or.inl ⟨by rfl, ?_⟩) ?_ ?_
                                     rotate_left
                                     · intro w'
                                       go_simp
                                       with_reducible rfl
                                     rotate_left
                                     · simp only [Act.put, List.setIfInBounds_toArray, List.set_cons_zero, List.set_cons_succ, i64_w, i32_w]
                                       rfl
                                     refine join_ (σ := Nat) 1 #[true, true, true, true, true, true, true, true, true, true, true, true, true, true, true, true, true, true, true, true, true, true, true, true, true, false] (fun s_ => [(46, .int .u32 t163), (50, .int .u64 t165), (53, .int .u32 t167), (4, .pointer (some ⟨s_, 0, none⟩)), (47, .int .i64 (wrap64 (t163))), (54, .agg #[.int .i64 (wrap64 (rd l0 5)), .int .i64 (wrap64 (rd l0 6)), .int .i64 (wrap64 (rd l0 7)), .int .i64 (wrap64 (t163)), .int .u64 t165, .int .u32 t167])]) (fun s_ w' => (w'.cell? ⟨ad154.block, ad154.off + 5, none⟩ = some (.int .u8 (rd l0 5)) ∧ w'.cell? ⟨ad154.block, ad154.off + 6, none⟩ = some (.int .u8 (rd l0 6)) ∧ w'.cell? ⟨ad154.block, ad154.off + 7, none⟩ = some (.int .u8 (rd l0 7))) ∧ (w'.heap[gb152]? = some (.cells #[.int .i64 0, .int .i64 0, .int .i64 0, .int .i64 0, .int .u64 0, .int .u32 0] 27 (0, 0))) ∧ (w'.heap[s_]? = some (.cells #[.int .i64 0, .int .i64 0, .int .i64 0, .int .i64 0, .int .u64 0, .int .u32 0] 27 (0, 0))) ∧ (w.heap.size ≤ s_) ∧ (w.heap.size ≤ s_) ∧ (gb152 ≠ s_) ∧ (s_ ≠ gb152) ∧ (Below w.heap.size w w')) ?_ ?_
                                     rotate_left
                                     · intro hCont
                                       refine two_ (i := 15) (j := 24) (Ni := some 46) (Nj := some 4) #[true, true, true, true, true, true, true, true, true, true, true, true, true, true, true, true, false, true, true, false, true, true, false, false, false, false] #[true, true, true, true, true, true, true, true, true, true, true, true, true, true, true, false, false, true, true, false, true, true, false, false, true, false] rfl rfl rfl rfl (two_of HT_.out (by kernel_rfl)) (by decide) (by decide) (fun K hK => ?_) (fun K hK => ?_)
                                       · skip
                                         refine goes_ Tryd.func25 (by kernel_rfl) rfl #[.slice A36 ((l0.take 12).drop 8).length (c0 - 8)] (by rfl) rfl rfl (by (try simp only [List.map_toArray, List.map_cons, List.map_nil]); first | done | (rw [show ((l0.take 12).drop 8).length = (12 - 8) from (by rw [List.length_drop, List.length_take]; have h_ : (12 : Int) ≤ (l0.length : Int) := of_decide_eq_true (by first | (with_reducible assumption) | assumption); omega)] <;> rfl) | rfl | (simp only [List.length_drop, List.length_take]; rfl)) ?_
                                         with_reducible refine (head_take_uint32.calls k _ _ ((l0.take 12).drop 8) t163 _ ?side1 ?side2 A20.out).mono ?_
                                         (case side1 => repeat (first | exact (Kd.C_below HR162.out HB.out) | (with_reducible refine Kd.C_alloc ?_ _) | (with_reducible refine Kd.C_drewN ?_ _) | (with_reducible refine Kd.C_drew ?_)))
                                         (case side2 => exact HC162.out)
                                         rintro e w' ⟨rfl, ⟨nd, rfl⟩⟩
                                         refine ⟨_, rfl, ?_⟩
                                         refine hK.out _ _ ⟨((HB.out.cell (World.block_lt_of_cell? w _ hw159_0)).trans hw159_0), ((HB.out.cell (World.block_lt_of_cell? w _ hw160_0)).trans hw160_0), ((HB.out.cell (World.block_lt_of_cell? w _ hw161_0)).trans hw161_0)⟩ (fun hHeld => ?_)
                                         clear hK K
                                         refine norm_ (a' := ?_) ?_ ?_
                                         rotate_left
                                         · show Act.put _ (some 46) _ = _
                                           simp only [Act.put, List.setIfInBounds_toArray, List.set_cons_zero, List.set_cons_succ, i64_w, i32_w]
                                           rfl
                                         refine pure_ (i := 16) (N := some 47) (v := ?_) (a' := ?_) #[true, true, true, true, true, true, true, true, true, true, true, true, true, true, true, true, true, true, true, false, true, true, false, false, false, false] rfl rfl (any_of HT_.out (by kernel_rfl)) (fun _ _ _ h => h) (Or.inl ⟨by rfl, ?_⟩) ?_ ?_
                                         rotate_left
                                         · intro w'
                                           go_simp
                                           with_reducible rfl
                                         rotate_left
                                         · simp only [Act.put, List.setIfInBounds_toArray, List.set_cons_zero, List.set_cons_succ, i64_w, i32_w]
                                           rfl
                                         refine two_ (i := 19) (j := 24) (Ni := some 50) (Nj := some 4) #[true, true, true, true, true, true, true, true, true, true, true, true, true, true, true, true, true, true, true, true, true, true, false, false, false, false] #[true, true, true, true, true, true, true, true, true, true, true, true, true, true, true, true, true, true, true, false, true, true, false, false, true, false] rfl rfl rfl rfl (two_of HT_.out (by kernel_rfl)) (by decide) (by decide) (fun K hK => ?_) (fun K hK => ?_)
                                         · skip
                                           refine goes_ Tryd.func26 (by kernel_rfl) rfl #[.slice A37 ((l0.take 20).drop 12).length (c0 - 12)] (by rfl) rfl rfl (by (try simp only [List.map_toArray, List.map_cons, List.map_nil]); first | done | (rw [show ((l0.take 20).drop 12).length = (20 - 12) from (by rw [List.length_drop, List.length_take]; have h_ : (20 : Int) ≤ (l0.length : Int) := of_decide_eq_true (by first | (with_reducible assumption) | assumption); omega)] <;> rfl) | rfl | (simp only [List.length_drop, List.length_take]; rfl)) ?_
                                           with_reducible refine (head_take_uint64.calls k _ _ ((l0.take 20).drop 12) t165 _ ?side1 ?side2 A23.out).mono ?_
                                           (case side1 => repeat (first | exact (Kd.C_below HR164.out (by repeat (first | (with_reducible first | exact HB.out | apply below_alloc | apply pw_below_drewN | apply below_drew1 | refine below_set ?_ GE152.out) | exact HB.out))) | (with_reducible refine Kd.C_alloc ?_ _) | (with_reducible refine Kd.C_drewN ?_ _) | (with_reducible refine Kd.C_drew ?_)))
                                           (case side2 => exact HC164.out)
                                           rintro e w' ⟨rfl, ⟨nd, rfl⟩⟩
                                           refine ⟨_, rfl, ?_⟩
                                           refine hK.out _ _ ⟨((HB.out.cell (World.block_lt_of_cell? w _ hw159_0)).trans hw159_0), ((HB.out.cell (World.block_lt_of_cell? w _ hw160_0)).trans hw160_0), ((HB.out.cell (World.block_lt_of_cell? w _ hw161_0)).trans hw161_0)⟩ (fun hHeld => ?_)
                                           clear hK K
                                           refine norm_ (a' := ?_) ?_ ?_
                                           rotate_left
                                           · show Act.put _ (some 50) _ = _
                                             simp only [Act.put, List.setIfInBounds_toArray, List.set_cons_zero, List.set_cons_succ, i64_w, i32_w]
                                             rfl
                                           refine two_ (i := 22) (j := 24) (Ni := some 53) (Nj := some 4) #[true, true, true, true, true, true, true, true, true, true, true, true, true, true, true, true, true, true, true, true, true, true, true, false, false, false] #[true, true, true, true, true, true, true, true, true, true, true, true, true, true, true, true, true, true, true, true, true, true, false, false, true, false] rfl rfl rfl rfl (two_of HT_.out (by kernel_rfl)) (by decide) (by decide) (fun K hK => ?_) (fun K hK => ?_)
                                           · skip
                                             refine goes_ Tryd.func25 (by kernel_rfl) rfl #[.slice A38 ((l0.take 24).drop 20).length (c0 - 20)] (by rfl) rfl rfl (by (try simp only [List.map_toArray, List.map_cons, List.map_nil]); first | done | (rw [show ((l0.take 24).drop 20).length = (24 - 20) from (by rw [List.length_drop, List.length_take]; have h_ : (24 : Int) ≤ (l0.length : Int) := of_decide_eq_true (by first | (with_reducible assumption) | assumption); omega)] <;> rfl) | rfl | (simp only [List.length_drop, List.length_take]; rfl)) ?_
                                             with_reducible refine (head_take_uint32.calls k _ _ ((l0.take 24).drop 20) t167 _ ?side1 ?side2 A26.out).mono ?_
                                             (case side1 => repeat (first | exact (Kd.C_below HR166.out (by repeat (first | (with_reducible first | exact HB.out | apply below_alloc | apply pw_below_drewN | apply below_drew1 | refine below_set ?_ GE152.out) | exact HB.out))) | (with_reducible refine Kd.C_alloc ?_ _) | (with_reducible refine Kd.C_drewN ?_ _) | (with_reducible refine Kd.C_drew ?_)))
                                             (case side2 => exact HC166.out)
                                             rintro e w' ⟨rfl, ⟨nd, rfl⟩⟩
                                             refine ⟨_, rfl, ?_⟩
                                             refine hK.out _ _ ⟨((HB.out.cell (World.block_lt_of_cell? w _ hw159_0)).trans hw159_0), ((HB.out.cell (World.block_lt_of_cell? w _ hw160_0)).trans hw160_0), ((HB.out.cell (World.block_lt_of_cell? w _ hw161_0)).trans hw161_0)⟩ (fun hHeld => ?_)
                                             clear hK K
                                             refine norm_ (a' := ?_) ?_ ?_
                                             rotate_left
                                             · show Act.put _ (some 53) _ = _
                                               simp only [Act.put, List.setIfInBounds_toArray, List.set_cons_zero, List.set_cons_succ, i64_w, i32_w]
                                               rfl
                                             refine pure_ (i := 23) (N := some 54) (v := ?_) (a' := ?_) #[true, true, true, true, true, true, true, true, true, true, true, true, true, true, true, true, true, true, true, true, true, true, true, true, false, false] rfl rfl (any_of HT_.out (by kernel_rfl)) (fun _ _ _ h => h) (Or.inl ⟨by rfl, ?_⟩) ?_ ?_
                                             rotate_left
                                             · intro w'
                                               go_simp
                                               with_reducible rfl
                                             rotate_left
                                             · simp only [Act.put, List.setIfInBounds_toArray, List.set_cons_zero, List.set_cons_succ, i64_w, i32_w]
                                               rfl
                                             refine one_ (i := 24) (N := some 4) #[true, true, true, true, true, true, true, true, true, true, true, true, true, true, true, true, true, true, true, true, true, true, true, true, true, false] rfl rfl (one_of HT_.out (by kernel_rfl)) (by decide) (fun K hK => ?_)
                                             refine box_step ?hg (N := 4) ?hd (cs := #[.int .i64 0, .int .i64 0, .int .i64 0, .int .i64 0, .int .u64 0, .int .u32 0]) (t := 27) ?hr ?_; (case hd => rfl); (case hg => rfl); (case hr => first | (go_simp; done) | (go_simp; rfl))
                                             intro gb168 hg w39 hbox hb
                                             have n0_ := Aside0.mk (blk_below (g := gb152) (o := .cells #[.int .i64 0, .int .i64 0, .int .i64 0, .int .i64 0, .int .u64 0, .int .u32 0] 27 (0, 0)) (by (with_reducible repeat (first | refine blk_drewN ?_ _ | refine blk_drew ?_ | refine blk_alloc ?_ _)); exact BK152.out) hb)
                                             have n1_ := Aside0.mk (below_step (by repeat (first | (with_reducible first | exact HB.out | apply below_alloc | apply pw_below_drewN | apply below_drew1 | refine below_set ?_ GE152.out) | exact HB.out)) hb)
                                             have n2_ := Aside0.mk (hbox)
                                             have n3_ := Aside0.mk ((by rw [hg]; exact (below_size (by repeat (first | (with_reducible first | exact HB.out | apply below_alloc | apply pw_below_drewN | apply below_drew1 | refine below_set ?_ GE152.out) | exact HB.out))) : w.heap.size ≤ gb168))
                                             have n4_ := Aside0.mk ((by rw [hg]; exact (below_size (by repeat (first | (with_reducible first | exact HB.out | apply below_alloc | apply pw_below_drewN | apply below_drew1 | refine below_set ?_ GE152.out) | exact HB.out))) : w.heap.size ≤ gb168))
                                             have n5_ := Aside0.mk ((by rw [hg]; exact Nat.ne_of_lt (blk_lt (g := gb152) (o := .cells #[.int .i64 0, .int .i64 0, .int .i64 0, .int .i64 0, .int .u64 0, .int .u32 0] 27 (0, 0)) (by (with_reducible repeat (first | refine blk_drewN ?_ _ | refine blk_drew ?_ | refine blk_alloc ?_ _)); exact BK152.out)) : gb152 ≠ gb168))
                                             have n6_ := Aside0.mk ((by rw [hg]; exact Nat.ne_of_gt (blk_lt (g := gb152) (o := .cells #[.int .i64 0, .int .i64 0, .int .i64 0, .int .i64 0, .int .u64 0, .int .u32 0] 27 (0, 0)) (by (with_reducible repeat (first | refine blk_drewN ?_ _ | refine blk_drew ?_ | refine blk_alloc ?_ _)); exact BK152.out)) : gb168 ≠ gb152))
                                             clear BK152
                                             clear HB
                                             have BK152 := n0_
                                             have HB := n1_
                                             have BK168 := n2_
                                             have GW168 := n3_
                                             have GE168 := n4_
                                             have NB152_168 := n5_
                                             have NB168_152 := n6_
                                             clear n0_ n1_ n2_ n3_ n4_ n5_ n6_
                                             clear hb hbox hg
                                             refine hK.out _ _ ⟨((HB.out.cell (World.block_lt_of_cell? w _ hw159_0)).trans hw159_0), ((HB.out.cell (World.block_lt_of_cell? w _ hw160_0)).trans hw160_0), ((HB.out.cell (World.block_lt_of_cell? w _ hw161_0)).trans hw161_0)⟩ (fun hHeld => ?_)
                                             clear hK K
                                             refine norm_ (a' := ?_) ?_ ?_
                                             rotate_left
                                             · show Act.put _ (some 4) _ = _
                                               simp only [Act.put, List.setIfInBounds_toArray, List.set_cons_zero, List.set_cons_succ, i64_w, i32_w]
                                               rfl
                                             exact norm_ (by simp only [putAll, Act.put, List.setIfInBounds_toArray, List.set_cons_zero, List.set_cons_succ]) (hCont (gb168) _ ⟨hHeld, (by (with_reducible repeat (first | refine blk_drewN ?_ _ | refine blk_drew ?_ | refine blk_alloc ?_ _)); exact BK152.out), (by (with_reducible repeat (first | refine blk_drewN ?_ _ | refine blk_drew ?_ | refine blk_alloc ?_ _)); exact BK168.out), GW168.out, GE168.out, NB152_168.out, NB168_152.out, (by repeat (first | (with_reducible first | exact HB.out | apply below_alloc | apply pw_below_drewN | apply below_drew1 | refine below_set ?_ GE152.out | refine below_set ?_ GE168.out) | exact HB.out))⟩)
                                           · skip
                                             refine box_step ?hg (N := 4) ?hd (cs := #[.int .i64 0, .int .i64 0, .int .i64 0, .int .i64 0, .int .u64 0, .int .u32 0]) (t := 27) ?hr ?_; (case hd => rfl); (case hg => rfl); (case hr => first | (go_simp; done) | (go_simp; rfl))
                                             intro gb168 hg w39 hbox hb
                                             have n0_ := Aside0.mk (blk_below (g := gb152) (o := .cells #[.int .i64 0, .int .i64 0, .int .i64 0, .int .i64 0, .int .u64 0, .int .u32 0] 27 (0, 0)) (by (with_reducible repeat (first | refine blk_drewN ?_ _ | refine blk_drew ?_ | refine blk_alloc ?_ _)); exact BK152.out) hb)
                                             have n1_ := Aside0.mk (below_step (by repeat (first | (with_reducible first | exact HB.out | apply below_alloc | apply pw_below_drewN | apply below_drew1 | refine below_set ?_ GE152.out) | exact HB.out)) hb)
                                             have n2_ := Aside0.mk (hbox)
                                             have n3_ := Aside0.mk ((by rw [hg]; exact (below_size (by repeat (first | (with_reducible first | exact HB.out | apply below_alloc | apply pw_below_drewN | apply below_drew1 | refine below_set ?_ GE152.out) | exact HB.out))) : w.heap.size ≤ gb168))
                                             have n4_ := Aside0.mk ((by rw [hg]; exact (below_size (by repeat (first | (with_reducible first | exact HB.out | apply below_alloc | apply pw_below_drewN | apply below_drew1 | refine below_set ?_ GE152.out) | exact HB.out))) : w.heap.size ≤ gb168))
                                             have n5_ := Aside0.mk ((by rw [hg]; exact Nat.ne_of_lt (blk_lt (g := gb152) (o := .cells #[.int .i64 0, .int .i64 0, .int .i64 0, .int .i64 0, .int .u64 0, .int .u32 0] 27 (0, 0)) (by (with_reducible repeat (first | refine blk_drewN ?_ _ | refine blk_drew ?_ | refine blk_alloc ?_ _)); exact BK152.out)) : gb152 ≠ gb168))
                                             have n6_ := Aside0.mk ((by rw [hg]; exact Nat.ne_of_gt (blk_lt (g := gb152) (o := .cells #[.int .i64 0, .int .i64 0, .int .i64 0, .int .i64 0, .int .u64 0, .int .u32 0] 27 (0, 0)) (by (with_reducible repeat (first | refine blk_drewN ?_ _ | refine blk_drew ?_ | refine blk_alloc ?_ _)); exact BK152.out)) : gb168 ≠ gb152))
                                             clear BK152
                                             clear HB
                                             have BK152 := n0_
                                             have HB := n1_
                                             have BK168 := n2_
                                             have GW168 := n3_
                                             have GE168 := n4_
                                             have NB152_168 := n5_
                                             have NB168_152 := n6_
                                             clear n0_ n1_ n2_ n3_ n4_ n5_ n6_
                                             clear hb hbox hg
                                             refine hK.out _ _ ⟨((HB.out.cell (World.block_lt_of_cell? w _ hw159_0)).trans hw159_0), ((HB.out.cell (World.block_lt_of_cell? w _ hw160_0)).trans hw160_0), ((HB.out.cell (World.block_lt_of_cell? w _ hw161_0)).trans hw161_0)⟩ (fun hHeld => ?_)
                                             clear hK K
                                             refine norm_ (a' := ?_) ?_ ?_
                                             rotate_left
                                             · show Act.put _ (some 4) _ = _
                                               simp only [Act.put, List.setIfInBounds_toArray, List.set_cons_zero, List.set_cons_succ, i64_w, i32_w]
                                               rfl
                                             refine one_ (i := 22) (N := some 53) #[true, true, true, true, true, true, true, true, true, true, true, true, true, true, true, true, true, true, true, true, true, true, true, false, true, false] rfl rfl (one_of HT_.out (by kernel_rfl)) (by decide) (fun K hK => ?_)
                                             refine goes_ Tryd.func25 (by kernel_rfl) rfl #[.slice A38 ((l0.take 24).drop 20).length (c0 - 20)] (by rfl) rfl rfl (by (try simp only [List.map_toArray, List.map_cons, List.map_nil]); first | done | (rw [show ((l0.take 24).drop 20).length = (24 - 20) from (by rw [List.length_drop, List.length_take]; have h_ : (24 : Int) ≤ (l0.length : Int) := of_decide_eq_true (by first | (with_reducible assumption) | assumption); omega)] <;> rfl) | rfl | (simp only [List.length_drop, List.length_take]; rfl)) ?_
                                             with_reducible refine (head_take_uint32.calls k _ _ ((l0.take 24).drop 20) t167 _ ?side1 ?side2 A26.out).mono ?_
                                             (case side1 => repeat (first | exact (Kd.C_below HR166.out HB.out) | (with_reducible refine Kd.C_alloc ?_ _) | (with_reducible refine Kd.C_drewN ?_ _) | (with_reducible refine Kd.C_drew ?_)))
                                             (case side2 => exact HC166.out)
                                             rintro e w' ⟨rfl, ⟨nd, rfl⟩⟩
                                             refine ⟨_, rfl, ?_⟩
                                             refine hK.out _ _ ⟨((HB.out.cell (World.block_lt_of_cell? w _ hw159_0)).trans hw159_0), ((HB.out.cell (World.block_lt_of_cell? w _ hw160_0)).trans hw160_0), ((HB.out.cell (World.block_lt_of_cell? w _ hw161_0)).trans hw161_0)⟩ (fun hHeld => ?_)
                                             clear hK K
                                             refine norm_ (a' := ?_) ?_ ?_
                                             rotate_left
                                             · show Act.put _ (some 53) _ = _
                                               simp only [Act.put, List.setIfInBounds_toArray, List.set_cons_zero, List.set_cons_succ, i64_w, i32_w]
                                               rfl
                                             refine pure_ (i := 23) (N := some 54) (v := ?_) (a' := ?_) #[true, true, true, true, true, true, true, true, true, true, true, true, true, true, true, true, true, true, true, true, true, true, true, true, true, false] rfl rfl (any_of HT_.out (by kernel_rfl)) (fun _ _ _ h => h) (Or.inl ⟨by rfl, ?_⟩) ?_ ?_
                                             rotate_left
                                             · intro w'
                                               go_simp
                                               with_reducible rfl
                                             rotate_left
                                             · simp only [Act.put, List.setIfInBounds_toArray, List.set_cons_zero, List.set_cons_succ, i64_w, i32_w]
                                               rfl
                                             exact norm_ (by simp only [putAll, Act.put, List.setIfInBounds_toArray, List.set_cons_zero, List.set_cons_succ]) (hCont (gb168) _ ⟨hHeld, (by (with_reducible repeat (first | refine blk_drewN ?_ _ | refine blk_drew ?_ | refine blk_alloc ?_ _)); exact BK152.out), (by (with_reducible repeat (first | refine blk_drewN ?_ _ | refine blk_drew ?_ | refine blk_alloc ?_ _)); exact BK168.out), GW168.out, GE168.out, NB152_168.out, NB168_152.out, (by repeat (first | (with_reducible first | exact HB.out | apply below_alloc | apply pw_below_drewN | apply below_drew1 | refine below_set ?_ GE152.out | refine below_set ?_ GE168.out) | exact HB.out))⟩)
                                         · skip
                                           refine box_step ?hg (N := 4) ?hd (cs := #[.int .i64 0, .int .i64 0, .int .i64 0, .int .i64 0, .int .u64 0, .int .u32 0]) (t := 27) ?hr ?_; (case hd => rfl); (case hg => rfl); (case hr => first | (go_simp; done) | (go_simp; rfl))
                                           intro gb168 hg w39 hbox hb
                                           have n0_ := Aside0.mk (blk_below (g := gb152) (o := .cells #[.int .i64 0, .int .i64 0, .int .i64 0, .int .i64 0, .int .u64 0, .int .u32 0] 27 (0, 0)) (by (with_reducible repeat (first | refine blk_drewN ?_ _ | refine blk_drew ?_ | refine blk_alloc ?_ _)); exact BK152.out) hb)
                                           have n1_ := Aside0.mk (below_step (by repeat (first | (with_reducible first | exact HB.out | apply below_alloc | apply pw_below_drewN | apply below_drew1 | refine below_set ?_ GE152.out) | exact HB.out)) hb)
                                           have n2_ := Aside0.mk (hbox)
                                           have n3_ := Aside0.mk ((by rw [hg]; exact (below_size (by repeat (first | (with_reducible first | exact HB.out | apply below_alloc | apply pw_below_drewN | apply below_drew1 | refine below_set ?_ GE152.out) | exact HB.out))) : w.heap.size ≤ gb168))
                                           have n4_ := Aside0.mk ((by rw [hg]; exact (below_size (by repeat (first | (with_reducible first | exact HB.out | apply below_alloc | apply pw_below_drewN | apply below_drew1 | refine below_set ?_ GE152.out) | exact HB.out))) : w.heap.size ≤ gb168))
                                           have n5_ := Aside0.mk ((by rw [hg]; exact Nat.ne_of_lt (blk_lt (g := gb152) (o := .cells #[.int .i64 0, .int .i64 0, .int .i64 0, .int .i64 0, .int .u64 0, .int .u32 0] 27 (0, 0)) (by (with_reducible repeat (first | refine blk_drewN ?_ _ | refine blk_drew ?_ | refine blk_alloc ?_ _)); exact BK152.out)) : gb152 ≠ gb168))
                                           have n6_ := Aside0.mk ((by rw [hg]; exact Nat.ne_of_gt (blk_lt (g := gb152) (o := .cells #[.int .i64 0, .int .i64 0, .int .i64 0, .int .i64 0, .int .u64 0, .int .u32 0] 27 (0, 0)) (by (with_reducible repeat (first | refine blk_drewN ?_ _ | refine blk_drew ?_ | refine blk_alloc ?_ _)); exact BK152.out)) : gb168 ≠ gb152))
                                           clear BK152
                                           clear HB
                                           have BK152 := n0_
                                           have HB := n1_
                                           have BK168 := n2_
                                           have GW168 := n3_
                                           have GE168 := n4_
                                           have NB152_168 := n5_
                                           have NB168_152 := n6_
                                           clear n0_ n1_ n2_ n3_ n4_ n5_ n6_
                                           clear hb hbox hg
                                           refine hK.out _ _ ⟨((HB.out.cell (World.block_lt_of_cell? w _ hw159_0)).trans hw159_0), ((HB.out.cell (World.block_lt_of_cell? w _ hw160_0)).trans hw160_0), ((HB.out.cell (World.block_lt_of_cell? w _ hw161_0)).trans hw161_0)⟩ (fun hHeld => ?_)
                                           clear hK K
                                           refine norm_ (a' := ?_) ?_ ?_
                                           rotate_left
                                           · show Act.put _ (some 4) _ = _
                                             simp only [Act.put, List.setIfInBounds_toArray, List.set_cons_zero, List.set_cons_succ, i64_w, i32_w]
                                             rfl
                                           refine one_ (i := 19) (N := some 50) #[true, true, true, true, true, true, true, true, true, true, true, true, true, true, true, true, true, true, true, true, true, true, false, false, true, false] rfl rfl (one_of HT_.out (by kernel_rfl)) (by decide) (fun K hK => ?_)
                                           refine goes_ Tryd.func26 (by kernel_rfl) rfl #[.slice A37 ((l0.take 20).drop 12).length (c0 - 12)] (by rfl) rfl rfl (by (try simp only [List.map_toArray, List.map_cons, List.map_nil]); first | done | (rw [show ((l0.take 20).drop 12).length = (20 - 12) from (by rw [List.length_drop, List.length_take]; have h_ : (20 : Int) ≤ (l0.length : Int) := of_decide_eq_true (by first | (with_reducible assumption) | assumption); omega)] <;> rfl) | rfl | (simp only [List.length_drop, List.length_take]; rfl)) ?_
                                           with_reducible refine (head_take_uint64.calls k _ _ ((l0.take 20).drop 12) t165 _ ?side1 ?side2 A23.out).mono ?_
                                           (case side1 => repeat (first | exact (Kd.C_below HR164.out HB.out) | (with_reducible refine Kd.C_alloc ?_ _) | (with_reducible refine Kd.C_drewN ?_ _) | (with_reducible refine Kd.C_drew ?_)))
                                           (case side2 => exact HC164.out)
                                           rintro e w' ⟨rfl, ⟨nd, rfl⟩⟩
                                           refine ⟨_, rfl, ?_⟩
                                           refine hK.out _ _ ⟨((HB.out.cell (World.block_lt_of_cell? w _ hw159_0)).trans hw159_0), ((HB.out.cell (World.block_lt_of_cell? w _ hw160_0)).trans hw160_0), ((HB.out.cell (World.block_lt_of_cell? w _ hw161_0)).trans hw161_0)⟩ (fun hHeld => ?_)
                                           clear hK K
                                           refine norm_ (a' := ?_) ?_ ?_
                                           rotate_left
                                           · show Act.put _ (some 50) _ = _
                                             simp only [Act.put, List.setIfInBounds_toArray, List.set_cons_zero, List.set_cons_succ, i64_w, i32_w]
                                             rfl
                                           refine one_ (i := 22) (N := some 53) #[true, true, true, true, true, true, true, true, true, true, true, true, true, true, true, true, true, true, true, true, true, true, true, false, true, false] rfl rfl (one_of HT_.out (by kernel_rfl)) (by decide) (fun K hK => ?_)
                                           refine goes_ Tryd.func25 (by kernel_rfl) rfl #[.slice A38 ((l0.take 24).drop 20).length (c0 - 20)] (by rfl) rfl rfl (by (try simp only [List.map_toArray, List.map_cons, List.map_nil]); first | done | (rw [show ((l0.take 24).drop 20).length = (24 - 20) from (by rw [List.length_drop, List.length_take]; have h_ : (24 : Int) ≤ (l0.length : Int) := of_decide_eq_true (by first | (with_reducible assumption) | assumption); omega)] <;> rfl) | rfl | (simp only [List.length_drop, List.length_take]; rfl)) ?_
                                           with_reducible refine (head_take_uint32.calls k _ _ ((l0.take 24).drop 20) t167 _ ?side1 ?side2 A26.out).mono ?_
                                           (case side1 => repeat (first | exact (Kd.C_below HR166.out (by repeat (first | (with_reducible first | exact HB.out | apply below_alloc | apply pw_below_drewN | apply below_drew1 | refine below_set ?_ GE152.out | refine below_set ?_ GE168.out) | exact HB.out))) | (with_reducible refine Kd.C_alloc ?_ _) | (with_reducible refine Kd.C_drewN ?_ _) | (with_reducible refine Kd.C_drew ?_)))
                                           (case side2 => exact HC166.out)
                                           rintro e w' ⟨rfl, ⟨nd, rfl⟩⟩
                                           refine ⟨_, rfl, ?_⟩
                                           refine hK.out _ _ ⟨((HB.out.cell (World.block_lt_of_cell? w _ hw159_0)).trans hw159_0), ((HB.out.cell (World.block_lt_of_cell? w _ hw160_0)).trans hw160_0), ((HB.out.cell (World.block_lt_of_cell? w _ hw161_0)).trans hw161_0)⟩ (fun hHeld => ?_)
                                           clear hK K
                                           refine norm_ (a' := ?_) ?_ ?_
                                           rotate_left
                                           · show Act.put _ (some 53) _ = _
                                             simp only [Act.put, List.setIfInBounds_toArray, List.set_cons_zero, List.set_cons_succ, i64_w, i32_w]
                                             rfl
                                           refine pure_ (i := 23) (N := some 54) (v := ?_) (a' := ?_) #[true, true, true, true, true, true, true, true, true, true, true, true, true, true, true, true, true, true, true, true, true, true, true, true, true, false] rfl rfl (any_of HT_.out (by kernel_rfl)) (fun _ _ _ h => h) (Or.inl ⟨by rfl, ?_⟩) ?_ ?_
                                           rotate_left
                                           · intro w'
                                             go_simp
                                             with_reducible rfl
                                           rotate_left
                                           · simp only [Act.put, List.setIfInBounds_toArray, List.set_cons_zero, List.set_cons_succ, i64_w, i32_w]
                                             rfl
                                           exact norm_ (by simp only [putAll, Act.put, List.setIfInBounds_toArray, List.set_cons_zero, List.set_cons_succ]) (hCont (gb168) _ ⟨hHeld, (by (with_reducible repeat (first | refine blk_drewN ?_ _ | refine blk_drew ?_ | refine blk_alloc ?_ _)); exact BK152.out), (by (with_reducible repeat (first | refine blk_drewN ?_ _ | refine blk_drew ?_ | refine blk_alloc ?_ _)); exact BK168.out), GW168.out, GE168.out, NB152_168.out, NB168_152.out, (by repeat (first | (with_reducible first | exact HB.out | apply below_alloc | apply pw_below_drewN | apply below_drew1 | refine below_set ?_ GE152.out | refine below_set ?_ GE168.out) | exact HB.out))⟩)
                                       · skip
                                         refine box_step ?hg (N := 4) ?hd (cs := #[.int .i64 0, .int .i64 0, .int .i64 0, .int .i64 0, .int .u64 0, .int .u32 0]) (t := 27) ?hr ?_; (case hd => rfl); (case hg => rfl); (case hr => first | (go_simp; done) | (go_simp; rfl))
                                         intro gb168 hg w39 hbox hb
                                         have n0_ := Aside0.mk (blk_below (g := gb152) (o := .cells #[.int .i64 0, .int .i64 0, .int .i64 0, .int .i64 0, .int .u64 0, .int .u32 0] 27 (0, 0)) (by (with_reducible repeat (first | refine blk_drewN ?_ _ | refine blk_drew ?_ | refine blk_alloc ?_ _)); exact BK152.out) hb)
                                         have n1_ := Aside0.mk (below_step (by repeat (first | (with_reducible first | exact HB.out | apply below_alloc | apply pw_below_drewN | apply below_drew1 | refine below_set ?_ GE152.out) | exact HB.out)) hb)
                                         have n2_ := Aside0.mk (hbox)
                                         have n3_ := Aside0.mk ((by rw [hg]; exact (below_size (by repeat (first | (with_reducible first | exact HB.out | apply below_alloc | apply pw_below_drewN | apply below_drew1 | refine below_set ?_ GE152.out) | exact HB.out))) : w.heap.size ≤ gb168))
                                         have n4_ := Aside0.mk ((by rw [hg]; exact (below_size (by repeat (first | (with_reducible first | exact HB.out | apply below_alloc | apply pw_below_drewN | apply below_drew1 | refine below_set ?_ GE152.out) | exact HB.out))) : w.heap.size ≤ gb168))
                                         have n5_ := Aside0.mk ((by rw [hg]; exact Nat.ne_of_lt (blk_lt (g := gb152) (o := .cells #[.int .i64 0, .int .i64 0, .int .i64 0, .int .i64 0, .int .u64 0, .int .u32 0] 27 (0, 0)) (by (with_reducible repeat (first | refine blk_drewN ?_ _ | refine blk_drew ?_ | refine blk_alloc ?_ _)); exact BK152.out)) : gb152 ≠ gb168))
                                         have n6_ := Aside0.mk ((by rw [hg]; exact Nat.ne_of_gt (blk_lt (g := gb152) (o := .cells #[.int .i64 0, .int .i64 0, .int .i64 0, .int .i64 0, .int .u64 0, .int .u32 0] 27 (0, 0)) (by (with_reducible repeat (first | refine blk_drewN ?_ _ | refine blk_drew ?_ | refine blk_alloc ?_ _)); exact BK152.out)) : gb168 ≠ gb152))
                                         clear BK152
                                         clear HB
                                         have BK152 := n0_
                                         have HB := n1_
                                         have BK168 := n2_
                                         have GW168 := n3_
                                         have GE168 := n4_
                                         have NB152_168 := n5_
                                         have NB168_152 := n6_
                                         clear n0_ n1_ n2_ n3_ n4_ n5_ n6_
                                         clear hb hbox hg
                                         refine hK.out _ _ ⟨((HB.out.cell (World.block_lt_of_cell? w _ hw159_0)).trans hw159_0), ((HB.out.cell (World.block_lt_of_cell? w _ hw160_0)).trans hw160_0), ((HB.out.cell (World.block_lt_of_cell? w _ hw161_0)).trans hw161_0)⟩ (fun hHeld => ?_)
                                         clear hK K
                                         refine norm_ (a' := ?_) ?_ ?_
                                         rotate_left
                                         · show Act.put _ (some 4) _ = _
                                           simp only [Act.put, List.setIfInBounds_toArray, List.set_cons_zero, List.set_cons_succ, i64_w, i32_w]
                                           rfl
                                         refine one_ (i := 15) (N := some 46) #[true, true, true, true, true, true, true, true, true, true, true, true, true, true, true, true, false, true, true, false, true, true, false, false, true, false] rfl rfl (one_of HT_.out (by kernel_rfl)) (by decide) (fun K hK => ?_)
                                         refine goes_ Tryd.func25 (by kernel_rfl) rfl #[.slice A36 ((l0.take 12).drop 8).length (c0 - 8)] (by rfl) rfl rfl (by (try simp only [List.map_toArray, List.map_cons, List.map_nil]); first | done | (rw [show ((l0.take 12).drop 8).length = (12 - 8) from (by rw [List.length_drop, List.length_take]; have h_ : (12 : Int) ≤ (l0.length : Int) := of_decide_eq_true (by first | (with_reducible assumption) | assumption); omega)] <;> rfl) | rfl | (simp only [List.length_drop, List.length_take]; rfl)) ?_
                                         with_reducible refine (head_take_uint32.calls k _ _ ((l0.take 12).drop 8) t163 _ ?side1 ?side2 A20.out).mono ?_
                                         (case side1 => repeat (first | exact (Kd.C_below HR162.out HB.out) | (with_reducible refine Kd.C_alloc ?_ _) | (with_reducible refine Kd.C_drewN ?_ _) | (with_reducible refine Kd.C_drew ?_)))
                                         (case side2 => exact HC162.out)
                                         rintro e w' ⟨rfl, ⟨nd, rfl⟩⟩
                                         refine ⟨_, rfl, ?_⟩
                                         refine hK.out _ _ ⟨((HB.out.cell (World.block_lt_of_cell? w _ hw159_0)).trans hw159_0), ((HB.out.cell (World.block_lt_of_cell? w _ hw160_0)).trans hw160_0), ((HB.out.cell (World.block_lt_of_cell? w _ hw161_0)).trans hw161_0)⟩ (fun hHeld => ?_)
                                         clear hK K
                                         refine norm_ (a' := ?_) ?_ ?_
                                         rotate_left
                                         · show Act.put _ (some 46) _ = _
                                           simp only [Act.put, List.setIfInBounds_toArray, List.set_cons_zero, List.set_cons_succ, i64_w, i32_w]
                                           rfl
                                         refine pure_ (i := 16) (N := some 47) (v := ?_) (a' := ?_) #[true, true, true, true, true, true, true, true, true, true, true, true, true, true, true, true, true, true, true, false, true, true, false, false, true, false] rfl rfl (any_of HT_.out (by kernel_rfl)) (fun _ _ _ h => h) (Or.inl ⟨by rfl, ?_⟩) ?_ ?_
                                         rotate_left
                                         · intro w'
                                           go_simp
                                           with_reducible rfl
                                         rotate_left
                                         · simp only [Act.put, List.setIfInBounds_toArray, List.set_cons_zero, List.set_cons_succ, i64_w, i32_w]
                                           rfl
                                         refine one_ (i := 19) (N := some 50) #[true, true, true, true, true, true, true, true, true, true, true, true, true, true, true, true, true, true, true, true, true, true, false, false, true, false] rfl rfl (one_of HT_.out (by kernel_rfl)) (by decide) (fun K hK => ?_)
                                         refine goes_ Tryd.func26 (by kernel_rfl) rfl #[.slice A37 ((l0.take 20).drop 12).length (c0 - 12)] (by rfl) rfl rfl (by (try simp only [List.map_toArray, List.map_cons, List.map_nil]); first | done | (rw [show ((l0.take 20).drop 12).length = (20 - 12) from (by rw [List.length_drop, List.length_take]; have h_ : (20 : Int) ≤ (l0.length : Int) := of_decide_eq_true (by first | (with_reducible assumption) | assumption); omega)] <;> rfl) | rfl | (simp only [List.length_drop, List.length_take]; rfl)) ?_
                                         with_reducible refine (head_take_uint64.calls k _ _ ((l0.take 20).drop 12) t165 _ ?side1 ?side2 A23.out).mono ?_
                                         (case side1 => repeat (first | exact (Kd.C_below HR164.out (by repeat (first | (with_reducible first | exact HB.out | apply below_alloc | apply pw_below_drewN | apply below_drew1 | refine below_set ?_ GE152.out | refine below_set ?_ GE168.out) | exact HB.out))) | (with_reducible refine Kd.C_alloc ?_ _) | (with_reducible refine Kd.C_drewN ?_ _) | (with_reducible refine Kd.C_drew ?_)))
                                         (case side2 => exact HC164.out)
                                         rintro e w' ⟨rfl, ⟨nd, rfl⟩⟩
                                         refine ⟨_, rfl, ?_⟩
                                         refine hK.out _ _ ⟨((HB.out.cell (World.block_lt_of_cell? w _ hw159_0)).trans hw159_0), ((HB.out.cell (World.block_lt_of_cell? w _ hw160_0)).trans hw160_0), ((HB.out.cell (World.block_lt_of_cell? w _ hw161_0)).trans hw161_0)⟩ (fun hHeld => ?_)
                                         clear hK K
                                         refine norm_ (a' := ?_) ?_ ?_
                                         rotate_left
                                         · show Act.put _ (some 50) _ = _
                                           simp only [Act.put, List.setIfInBounds_toArray, List.set_cons_zero, List.set_cons_succ, i64_w, i32_w]
                                           rfl
                                         refine one_ (i := 22) (N := some 53) #[true, true, true, true, true, true, true, true, true, true, true, true, true, true, true, true, true, true, true, true, true, true, true, false, true, false] rfl rfl (one_of HT_.out (by kernel_rfl)) (by decide) (fun K hK => ?_)
                                         refine goes_ Tryd.func25 (by kernel_rfl) rfl #[.slice A38 ((l0.take 24).drop 20).length (c0 - 20)] (by rfl) rfl rfl (by (try simp only [List.map_toArray, List.map_cons, List.map_nil]); first | done | (rw [show ((l0.take 24).drop 20).length = (24 - 20) from (by rw [List.length_drop, List.length_take]; have h_ : (24 : Int) ≤ (l0.length : Int) := of_decide_eq_true (by first | (with_reducible assumption) | assumption); omega)] <;> rfl) | rfl | (simp only [List.length_drop, List.length_take]; rfl)) ?_
                                         with_reducible refine (head_take_uint32.calls k _ _ ((l0.take 24).drop 20) t167 _ ?side1 ?side2 A26.out).mono ?_
                                         (case side1 => repeat (first | exact (Kd.C_below HR166.out (by repeat (first | (with_reducible first | exact HB.out | apply below_alloc | apply pw_below_drewN | apply below_drew1 | refine below_set ?_ GE152.out | refine below_set ?_ GE168.out) | exact HB.out))) | (with_reducible refine Kd.C_alloc ?_ _) | (with_reducible refine Kd.C_drewN ?_ _) | (with_reducible refine Kd.C_drew ?_)))
                                         (case side2 => exact HC166.out)
                                         rintro e w' ⟨rfl, ⟨nd, rfl⟩⟩
                                         refine ⟨_, rfl, ?_⟩
                                         refine hK.out _ _ ⟨((HB.out.cell (World.block_lt_of_cell? w _ hw159_0)).trans hw159_0), ((HB.out.cell (World.block_lt_of_cell? w _ hw160_0)).trans hw160_0), ((HB.out.cell (World.block_lt_of_cell? w _ hw161_0)).trans hw161_0)⟩ (fun hHeld => ?_)
                                         clear hK K
                                         refine norm_ (a' := ?_) ?_ ?_
                                         rotate_left
                                         · show Act.put _ (some 53) _ = _
                                           simp only [Act.put, List.setIfInBounds_toArray, List.set_cons_zero, List.set_cons_succ, i64_w, i32_w]
                                           rfl
                                         refine pure_ (i := 23) (N := some 54) (v := ?_) (a' := ?_) #[true, true, true, true, true, true, true, true, true, true, true, true, true, true, true, true, true, true, true, true, true, true, true, true, true, false] rfl rfl (any_of HT_.out (by kernel_rfl)) (fun _ _ _ h => h) (Or.inl ⟨by rfl, ?_⟩) ?_ ?_
                                         rotate_left
                                         · intro w'
                                           go_simp
                                           with_reducible rfl
                                         rotate_left
                                         · simp only [Act.put, List.setIfInBounds_toArray, List.set_cons_zero, List.set_cons_succ, i64_w, i32_w]
                                           rfl
                                         exact norm_ (by simp only [putAll, Act.put, List.setIfInBounds_toArray, List.set_cons_zero, List.set_cons_succ]) (hCont (gb168) _ ⟨hHeld, (by (with_reducible repeat (first | refine blk_drewN ?_ _ | refine blk_drew ?_ | refine blk_alloc ?_ _)); exact BK152.out), (by (with_reducible repeat (first | refine blk_drewN ?_ _ | refine blk_drew ?_ | refine blk_alloc ?_ _)); exact BK168.out), GW168.out, GE168.out, NB152_168.out, NB168_152.out, (by repeat (first | (with_reducible first | exact HB.out | apply below_alloc | apply pw_below_drewN | apply below_drew1 | refine below_set ?_ GE152.out | refine below_set ?_ GE168.out) | exact HB.out))⟩)
                                     rintro gb168 w40 ⟨hS_, h0_, h1_, h2_, h3_, h4_, h5_, h6_⟩
                                     have n0_ : Aside0 (w40.heap[gb152]? = some (.cells #[.int .i64 0, .int .i64 0, .int .i64 0, .int .i64 0, .int .u64 0, .int .u32 0] 27 (0, 0))) := ⟨h0_⟩
                                     have n1_ : Aside0 (w40.heap[gb168]? = some (.cells #[.int .i64 0, .int .i64 0, .int .i64 0, .int .i64 0, .int .u64 0, .int .u32 0] 27 (0, 0))) := ⟨h1_⟩
                                     have n2_ : Aside0 (w.heap.size ≤ gb168) := ⟨h2_⟩
                                     have n3_ : Aside0 (w.heap.size ≤ gb168) := ⟨h3_⟩
                                     have n4_ : Aside0 (gb152 ≠ gb168) := ⟨h4_⟩
                                     have n5_ : Aside0 (gb168 ≠ gb152) := ⟨h5_⟩
                                     have n6_ : Aside0 (Below w.heap.size w w40) := ⟨h6_⟩
                                     clear BK152
                                     clear HB
                                     clear h0_ h1_ h2_ h3_ h4_ h5_ h6_
                                     have BK152 := n0_
                                     have BK168 := n1_
                                     have GW168 := n2_
                                     have GE168 := n3_
                                     have NB152_168 := n4_
                                     have NB168_152 := n5_
                                     have HB := n6_
                                     clear n0_ n1_ n2_ n3_ n4_ n5_ n6_
                                     have hHeld : w40.cell? ⟨ad154.block, ad154.off + 5, none⟩ = some (.int .u8 (rd l0 5)) ∧ w40.cell? ⟨ad154.block, ad154.off + 6, none⟩ = some (.int .u8 (rd l0 6)) ∧ w40.cell? ⟨ad154.block, ad154.off + 7, none⟩ = some (.int .u8 (rd l0 7)) := hS_
                                     refine norm_ (a' := ?_) ?_ ?_
                                     rotate_left
                                     · simp only [putAll, Act.put, List.setIfInBounds_toArray, List.set_cons_zero, List.set_cons_succ]
                                       rfl
                                     refine one_ (i := 25) (N := none) #[true, true, true, true, true, true, true, true, true, true, true, true, true, true, true, true, true, true, true, true, true, true, true, true, true, true] rfl rfl (one_of HT_.out (by kernel_rfl)) (by decide) (fun K hK => ?_)
                                     have hs41 : w40.cell? ⟨gb168, 0, none⟩ = some (.int .i64 0) := (blk_cell BK168.out 0).trans rfl
                                     have hfs41 := blk_frozen BK168.out 0
                                     have hns41_0 := NB152_168.out
                                     have hms41_0 := NB168_152.out
                                     have hs42 : w40.cell? ⟨gb168, 1, none⟩ = some (.int .i64 0) := (blk_cell BK168.out 1).trans rfl
                                     have hfs42 := blk_frozen BK168.out 1
                                     have hns42_0 := NB152_168.out
                                     have hms42_0 := NB168_152.out
                                     have hs43 : w40.cell? ⟨gb168, 2, none⟩ = some (.int .i64 0) := (blk_cell BK168.out 2).trans rfl
                                     have hfs43 := blk_frozen BK168.out 2
                                     have hns43_0 := NB152_168.out
                                     have hms43_0 := NB168_152.out
                                     have hs44 : w40.cell? ⟨gb168, 3, none⟩ = some (.int .i64 0) := (blk_cell BK168.out 3).trans rfl
                                     have hfs44 := blk_frozen BK168.out 3
                                     have hns44_0 := NB152_168.out
                                     have hms44_0 := NB168_152.out
                                     have hs45 : w40.cell? ⟨gb168, 4, none⟩ = some (.int .u64 0) := (blk_cell BK168.out 4).trans rfl
                                     have hfs45 := blk_frozen BK168.out 4
                                     have hns45_0 := NB152_168.out
                                     have hms45_0 := NB168_152.out
                                     have hs46 : w40.cell? ⟨gb168, 5, none⟩ = some (.int .u32 0) := (blk_cell BK168.out 5).trans rfl
                                     have hfs46 := blk_frozen BK168.out 5
                                     have hns46_0 := NB152_168.out
                                     have hms46_0 := NB168_152.out
                                     refine skip_ (w1 := ?_) (by rfl) rfl ?_ ?_
                                     rotate_left
                                     · go_simp
                                       rfl
                                     refine hK.out _ _ ⟨((cell_far (p := ⟨gb168, _, none⟩) (by first | exact Nat.ne_of_lt (Nat.lt_of_lt_of_le (by have := World.block_lt_of_cell? _ _ hw159_0; first | rwa [add_block] at this | exact this) GW168.out) | (rw [add_block]; exact Nat.ne_of_lt (Nat.lt_of_lt_of_le (by have := World.block_lt_of_cell? _ _ hw159_0; first | rwa [add_block] at this | exact this) GW168.out)) | (show (Addr.add _ _).block ≠ _; rw [add_block]; exact Nat.ne_of_lt (Nat.lt_of_lt_of_le (by have := World.block_lt_of_cell? _ _ hw159_0; first | rwa [add_block] at this | exact this) GW168.out)) | (dsimp only; exact Nat.ne_of_lt (Nat.lt_of_lt_of_le (by have := World.block_lt_of_cell? _ _ hw159_0; first | rwa [add_block] at this | exact this) GW168.out))) _).trans (((cell_far (p := ⟨gb168, _, none⟩) (by first | exact Nat.ne_of_lt (Nat.lt_of_lt_of_le (by have := World.block_lt_of_cell? _ _ hw159_0; first | rwa [add_block] at this | exact this) GW168.out) | (rw [add_block]; exact Nat.ne_of_lt (Nat.lt_of_lt_of_le (by have := World.block_lt_of_cell? _ _ hw159_0; first | rwa [add_block] at this | exact this) GW168.out)) | (show (Addr.add _ _).block ≠ _; rw [add_block]; exact Nat.ne_of_lt (Nat.lt_of_lt_of_le (by have := World.block_lt_of_cell? _ _ hw159_0; first | rwa [add_block] at this | exact this) GW168.out)) | (dsimp only; exact Nat.ne_of_lt (Nat.lt_of_lt_of_le (by have := World.block_lt_of_cell? _ _ hw159_0; first | rwa [add_block] at this | exact this) GW168.out))) _).trans (((cell_far (p := ⟨gb168, _, none⟩) (by first | exact Nat.ne_of_lt (Nat.lt_of_lt_of_le (by have := World.block_lt_of_cell? _ _ hw159_0; first | rwa [add_block] at this | exact this) GW168.out) | (rw [add_block]; exact Nat.ne_of_lt (Nat.lt_of_lt_of_le (by have := World.block_lt_of_cell? _ _ hw159_0; first | rwa [add_block] at this | exact this) GW168.out)) | (show (Addr.add _ _).block ≠ _; rw [add_block]; exact Nat.ne_of_lt (Nat.lt_of_lt_of_le (by have := World.block_lt_of_cell? _ _ hw159_0; first | rwa [add_block] at this | exact this) GW168.out)) | (dsimp only; exact Nat.ne_of_lt (Nat.lt_of_lt_of_le (by have := World.block_lt_of_cell? _ _ hw159_0; first | rwa [add_block] at this | exact this) GW168.out))) _).trans (((cell_far (p := ⟨gb168, _, none⟩) (by first | exact Nat.ne_of_lt (Nat.lt_of_lt_of_le (by have := World.block_lt_of_cell? _ _ hw159_0; first | rwa [add_block] at this | exact this) GW168.out) | (rw [add_block]; exact Nat.ne_of_lt (Nat.lt_of_lt_of_le (by have := World.block_lt_of_cell? _ _ hw159_0; first | rwa [add_block] at this | exact this) GW168.out)) | (show (Addr.add _ _).block ≠ _; rw [add_block]; exact Nat.ne_of_lt (Nat.lt_of_lt_of_le (by have := World.block_lt_of_cell? _ _ hw159_0; first | rwa [add_block] at this | exact this) GW168.out)) | (dsimp only; exact Nat.ne_of_lt (Nat.lt_of_lt_of_le (by have := World.block_lt_of_cell? _ _ hw159_0; first | rwa [add_block] at this | exact this) GW168.out))) _).trans (((cell_far (p := ⟨gb168, _, none⟩) (by first | exact Nat.ne_of_lt (Nat.lt_of_lt_of_le (by have := World.block_lt_of_cell? _ _ hw159_0; first | rwa [add_block] at this | exact this) GW168.out) | (rw [add_block]; exact Nat.ne_of_lt (Nat.lt_of_lt_of_le (by have := World.block_lt_of_cell? _ _ hw159_0; first | rwa [add_block] at this | exact this) GW168.out)) | (show (Addr.add _ _).block ≠ _; rw [add_block]; exact Nat.ne_of_lt (Nat.lt_of_lt_of_le (by have := World.block_lt_of_cell? _ _ hw159_0; first | rwa [add_block] at this | exact this) GW168.out)) | (dsimp only; exact Nat.ne_of_lt (Nat.lt_of_lt_of_le (by have := World.block_lt_of_cell? _ _ hw159_0; first | rwa [add_block] at this | exact this) GW168.out))) _).trans (((cell_far (p := ⟨gb168, _, none⟩) (by first | exact Nat.ne_of_lt (Nat.lt_of_lt_of_le (by have := World.block_lt_of_cell? _ _ hw159_0; first | rwa [add_block] at this | exact this) GW168.out) | (rw [add_block]; exact Nat.ne_of_lt (Nat.lt_of_lt_of_le (by have := World.block_lt_of_cell? _ _ hw159_0; first | rwa [add_block] at this | exact this) GW168.out)) | (show (Addr.add _ _).block ≠ _; rw [add_block]; exact Nat.ne_of_lt (Nat.lt_of_lt_of_le (by have := World.block_lt_of_cell? _ _ hw159_0; first | rwa [add_block] at this | exact this) GW168.out)) | (dsimp only; exact Nat.ne_of_lt (Nat.lt_of_lt_of_le (by have := World.block_lt_of_cell? _ _ hw159_0; first | rwa [add_block] at this | exact this) GW168.out))) _).trans (hHeld.1)))))))))))), ((cell_far (p := ⟨gb168, _, none⟩) (by first | exact Nat.ne_of_lt (Nat.lt_of_lt_of_le (by have := World.block_lt_of_cell? _ _ hw160_0; first | rwa [add_block] at this | exact this) GW168.out) | (rw [add_block]; exact Nat.ne_of_lt (Nat.lt_of_lt_of_le (by have := World.block_lt_of_cell? _ _ hw160_0; first | rwa [add_block] at this | exact this) GW168.out)) | (show (Addr.add _ _).block ≠ _; rw [add_block]; exact Nat.ne_of_lt (Nat.lt_of_lt_of_le (by have := World.block_lt_of_cell? _ _ hw160_0; first | rwa [add_block] at this | exact this) GW168.out)) | (dsimp only; exact Nat.ne_of_lt (Nat.lt_of_lt_of_le (by have := World.block_lt_of_cell? _ _ hw160_0; first | rwa [add_block] at this | exact this) GW168.out))) _).trans (((cell_far (p := ⟨gb168, _, none⟩) (by first | exact Nat.ne_of_lt (Nat.lt_of_lt_of_le (by have := World.block_lt_of_cell? _ _ hw160_0; first | rwa [add_block] at this | exact this) GW168.out) | (rw [add_block]; exact Nat.ne_of_lt (Nat.lt_of_lt_of_le (by have := World.block_lt_of_cell? _ _ hw160_0; first | rwa [add_block] at this | exact this) GW168.out)) | (show (Addr.add _ _).block ≠ _; rw [add_block]; exact Nat.ne_of_lt (Nat.lt_of_lt_of_le (by have := World.block_lt_of_cell? _ _ hw160_0; first | rwa [add_block] at this | exact this) GW168.out)) | (dsimp only; exact Nat.ne_of_lt (Nat.lt_of_lt_of_le (by have := World.block_lt_of_cell? _ _ hw160_0; first | rwa [add_block] at this | exact this) GW168.out))) _).trans (((cell_far (p := ⟨gb168, _, none⟩) (by first | exact Nat.ne_of_lt (Nat.lt_of_lt_of_le (by have := World.block_lt_of_cell? _ _ hw160_0; first | rwa [add_block] at this | exact this) GW168.out) | (rw [add_block]; exact Nat.ne_of_lt (Nat.lt_of_lt_of_le (by have := World.block_lt_of_cell? _ _ hw160_0; first | rwa [add_block] at this | exact this) GW168.out)) | (show (Addr.add _ _).block ≠ _; rw [add_block]; exact Nat.ne_of_lt (Nat.lt_of_lt_of_le (by have := World.block_lt_of_cell? _ _ hw160_0; first | rwa [add_block] at this | exact this) GW168.out)) | (dsimp only; exact Nat.ne_of_lt (Nat.lt_of_lt_of_le (by have := World.block_lt_of_cell? _ _ hw160_0; first | rwa [add_block] at this | exact this) GW168.out))) _).trans (((cell_far (p := ⟨gb168, _, none⟩) (by first | exact Nat.ne_of_lt (Nat.lt_of_lt_of_le (by have := World.block_lt_of_cell? _ _ hw160_0; first | rwa [add_block] at this | exact this) GW168.out) | (rw [add_block]; exact Nat.ne_of_lt (Nat.lt_of_lt_of_le (by have := World.block_lt_of_cell? _ _ hw160_0; first | rwa [add_block] at this | exact this) GW168.out)) | (show (Addr.add _ _).block ≠ _; rw [add_block]; exact Nat.ne_of_lt (Nat.lt_of_lt_of_le (by have := World.block_lt_of_cell? _ _ hw160_0; first | rwa [add_block] at this | exact this) GW168.out)) | (dsimp only; exact Nat.ne_of_lt (Nat.lt_of_lt_of_le (by have := World.block_lt_of_cell? _ _ hw160_0; first | rwa [add_block] at this | exact this) GW168.out))) _).trans (((cell_far (p := ⟨gb168, _, none⟩) (by first | exact Nat.ne_of_lt (Nat.lt_of_lt_of_le (by have := World.block_lt_of_cell? _ _ hw160_0; first | rwa [add_block] at this | exact this) GW168.out) | (rw [add_block]; exact Nat.ne_of_lt (Nat.lt_of_lt_of_le (by have := World.block_lt_of_cell? _ _ hw160_0; first | rwa [add_block] at this | exact this) GW168.out)) | (show (Addr.add _ _).block ≠ _; rw [add_block]; exact Nat.ne_of_lt (Nat.lt_of_lt_of_le (by have := World.block_lt_of_cell? _ _ hw160_0; first | rwa [add_block] at this | exact this) GW168.out)) | (dsimp only; exact Nat.ne_of_lt (Nat.lt_of_lt_of_le (by have := World.block_lt_of_cell? _ _ hw160_0; first | rwa [add_block] at this | exact this) GW168.out))) _).trans (((cell_far (p := ⟨gb168, _, none⟩) (by first | exact Nat.ne_of_lt (Nat.lt_of_lt_of_le (by have := World.block_lt_of_cell? _ _ hw160_0; first | rwa [add_block] at this | exact this) GW168.out) | (rw [add_block]; exact Nat.ne_of_lt (Nat.lt_of_lt_of_le (by have := World.block_lt_of_cell? _ _ hw160_0; first | rwa [add_block] at this | exact this) GW168.out)) | (show (Addr.add _ _).block ≠ _; rw [add_block]; exact Nat.ne_of_lt (Nat.lt_of_lt_of_le (by have := World.block_lt_of_cell? _ _ hw160_0; first | rwa [add_block] at this | exact this) GW168.out)) | (dsimp only; exact Nat.ne_of_lt (Nat.lt_of_lt_of_le (by have := World.block_lt_of_cell? _ _ hw160_0; first | rwa [add_block] at this | exact this) GW168.out))) _).trans (hHeld.2.1)))))))))))), ((cell_far (p := ⟨gb168, _, none⟩) (by first | exact Nat.ne_of_lt (Nat.lt_of_lt_of_le (by have := World.block_lt_of_cell? _ _ hw161_0; first | rwa [add_block] at this | exact this) GW168.out) | (rw [add_block]; exact Nat.ne_of_lt (Nat.lt_of_lt_of_le (by have := World.block_lt_of_cell? _ _ hw161_0; first | rwa [add_block] at this | exact this) GW168.out)) | (show (Addr.add _ _).block ≠ _; rw [add_block]; exact Nat.ne_of_lt (Nat.lt_of_lt_of_le (by have := World.block_lt_of_cell? _ _ hw161_0; first | rwa [add_block] at this | exact this) GW168.out)) | (dsimp only; exact Nat.ne_of_lt (Nat.lt_of_lt_of_le (by have := World.block_lt_of_cell? _ _ hw161_0; first | rwa [add_block] at this | exact this) GW168.out))) _).trans (((cell_far (p := ⟨gb168, _, none⟩) (by first | exact Nat.ne_of_lt (Nat.lt_of_lt_of_le (by have := World.block_lt_of_cell? _ _ hw161_0; first | rwa [add_block] at this | exact this) GW168.out) | (rw [add_block]; exact Nat.ne_of_lt (Nat.lt_of_lt_of_le (by have := World.block_lt_of_cell? _ _ hw161_0; first | rwa [add_block] at this | exact this) GW168.out)) | (show (Addr.add _ _).block ≠ _; rw [add_block]; exact Nat.ne_of_lt (Nat.lt_of_lt_of_le (by have := World.block_lt_of_cell? _ _ hw161_0; first | rwa [add_block] at this | exact this) GW168.out)) | (dsimp only; exact Nat.ne_of_lt (Nat.lt_of_lt_of_le (by have := World.block_lt_of_cell? _ _ hw161_0; first | rwa [add_block] at this | exact this) GW168.out))) _).trans (((cell_far (p := ⟨gb168, _, none⟩) (by first | exact Nat.ne_of_lt (Nat.lt_of_lt_of_le (by have := World.block_lt_of_cell? _ _ hw161_0; first | rwa [add_block] at this | exact this) GW168.out) | (rw [add_block]; exact Nat.ne_of_lt (Nat.lt_of_lt_of_le (by have := World.block_lt_of_cell? _ _ hw161_0; first | rwa [add_block] at this | exact this) GW168.out)) | (show (Addr.add _ _).block ≠ _; rw [add_block]; exact Nat.ne_of_lt (Nat.lt_of_lt_of_le (by have := World.block_lt_of_cell? _ _ hw161_0; first | rwa [add_block] at this | exact this) GW168.out)) | (dsimp only; exact Nat.ne_of_lt (Nat.lt_of_lt_of_le (by have := World.block_lt_of_cell? _ _ hw161_0; first | rwa [add_block] at this | exact this) GW168.out))) _).trans (((cell_far (p := ⟨gb168, _, none⟩) (by first | exact Nat.ne_of_lt (Nat.lt_of_lt_of_le (by have := World.block_lt_of_cell? _ _ hw161_0; first | rwa [add_block] at this | exact this) GW168.out) | (rw [add_block]; exact Nat.ne_of_lt (Nat.lt_of_lt_of_le (by have := World.block_lt_of_cell? _ _ hw161_0; first | rwa [add_block] at this | exact this) GW168.out)) | (show (Addr.add _ _).block ≠ _; rw [add_block]; exact Nat.ne_of_lt (Nat.lt_of_lt_of_le (by have := World.block_lt_of_cell? _ _ hw161_0; first | rwa [add_block] at this | exact this) GW168.out)) | (dsimp only; exact Nat.ne_of_lt (Nat.lt_of_lt_of_le (by have := World.block_lt_of_cell? _ _ hw161_0; first | rwa [add_block] at this | exact this) GW168.out))) _).trans (((cell_far (p := ⟨gb168, _, none⟩) (by first | exact Nat.ne_of_lt (Nat.lt_of_lt_of_le (by have := World.block_lt_of_cell? _ _ hw161_0; first | rwa [add_block] at this | exact this) GW168.out) | (rw [add_block]; exact Nat.ne_of_lt (Nat.lt_of_lt_of_le (by have := World.block_lt_of_cell? _ _ hw161_0; first | rwa [add_block] at this | exact this) GW168.out)) | (show (Addr.add _ _).block ≠ _; rw [add_block]; exact Nat.ne_of_lt (Nat.lt_of_lt_of_le (by have := World.block_lt_of_cell? _ _ hw161_0; first | rwa [add_block] at this | exact this) GW168.out)) | (dsimp only; exact Nat.ne_of_lt (Nat.lt_of_lt_of_le (by have := World.block_lt_of_cell? _ _ hw161_0; first | rwa [add_block] at this | exact this) GW168.out))) _).trans (((cell_far (p := ⟨gb168, _, none⟩) (by first | exact Nat.ne_of_lt (Nat.lt_of_lt_of_le (by have := World.block_lt_of_cell? _ _ hw161_0; first | rwa [add_block] at this | exact this) GW168.out) | (rw [add_block]; exact Nat.ne_of_lt (Nat.lt_of_lt_of_le (by have := World.block_lt_of_cell? _ _ hw161_0; first | rwa [add_block] at this | exact this) GW168.out)) | (show (Addr.add _ _).block ≠ _; rw [add_block]; exact Nat.ne_of_lt (Nat.lt_of_lt_of_le (by have := World.block_lt_of_cell? _ _ hw161_0; first | rwa [add_block] at this | exact this) GW168.out)) | (dsimp only; exact Nat.ne_of_lt (Nat.lt_of_lt_of_le (by have := World.block_lt_of_cell? _ _ hw161_0; first | rwa [add_block] at this | exact this) GW168.out))) _).trans (hHeld.2.2))))))))))))⟩ (fun hHeld => ?_)
                                     clear hK K
                                     refine done_ (done_of HT_.out (by kernel_rfl)) ?_
                                     have hnb47 := NB168_152.out
                                     have hnc47 := NB152_168.out
                                     have hcz48_0 : w40.cell? ⟨gb168, 0, none⟩ = some (.int .i64 0) := (blk_cell BK168.out 0).trans rfl
                                     have hcz48_1 : w40.cell? ⟨gb168, 1, none⟩ = some (.int .i64 0) := (blk_cell BK168.out 1).trans rfl
                                     have hcz48_2 : w40.cell? ⟨gb168, 2, none⟩ = some (.int .i64 0) := (blk_cell BK168.out 2).trans rfl
                                     have hcz48_3 : w40.cell? ⟨gb168, 3, none⟩ = some (.int .i64 0) := (blk_cell BK168.out 3).trans rfl
                                     have hcz48_4 : w40.cell? ⟨gb168, 4, none⟩ = some (.int .u64 0) := (blk_cell BK168.out 4).trans rfl
                                     have hcz48_5 : w40.cell? ⟨gb168, 5, none⟩ = some (.int .u32 0) := (blk_cell BK168.out 5).trans rfl
                                     have hfz48_0 := blk_frozen BK168.out 0
                                     have hfz48_1 := blk_frozen BK168.out 1
                                     have hfz48_2 := blk_frozen BK168.out 2
                                     have hfz48_3 := blk_frozen BK168.out 3
                                     have hfz48_4 := blk_frozen BK168.out 4
                                     have hfz48_5 := blk_frozen BK168.out 5
                                     try go_wp2_with (first | ((with_reducible refine gate_callee (f := 20) rfl ?_); refine goesL_ (some 56) rfl rfl Tryd.func20 (by kernel_rfl) rfl #[.agg #[.int .i64 (wrap64 (rd l0 5)), .int .i64 (wrap64 (rd l0 6)), .int .i64 (wrap64 (rd l0 7)), .int .i64 (wrap64 (t163)), .int .u64 t165, .int .u32 t167]] rfl (by (try simp only [List.map_toArray, List.map_cons, List.map_nil]); first | done | rfl | (simp only [List.length_drop, List.length_take]; rfl)) ?_; (with_reducible refine (head_right.calls (wrap64 (rd l0 5)) (wrap64 (rd l0 6)) (wrap64 (rd l0 7)) (wrap64 (t163)) t165 t167 true _ ?sideG A27.out).mono ?_); (case sideG => first | exact Laid.below HG.out (by repeat (first | (with_reducible first | exact HB.out | apply below_alloc | apply pw_below_drewN | apply below_drew1 | refine below_set ?_ GE152.out | refine below_set ?_ GE168.out) | exact HB.out)) | repeat (first | exact Laid.below HG.out HB.out | exact HG.out | (with_reducible refine Laid.alloc ?_ _) | (with_reducible refine Laid.drewN ?_ _) | (with_reducible refine Laid.drew ?_))); rintro e w49 ⟨rfl, hb⟩; refine ⟨_, rfl, ?_⟩; have n0_ := Aside0.mk (blk_below (g := gb152) (o := .cells #[.int .i64 0, .int .i64 0, .int .i64 0, .int .i64 0, .int .u64 0, .int .u32 0] 27 (0, 0)) (by (with_reducible repeat (first | refine blk_drewN ?_ _ | refine blk_drew ?_ | refine blk_alloc ?_ _)); refine blk_far ?_ NB152_168.out _; (with_reducible repeat (first | refine blk_drewN ?_ _ | refine blk_drew ?_ | refine blk_alloc ?_ _)); refine blk_far ?_ NB152_168.out _; (with_reducible repeat (first | refine blk_drewN ?_ _ | refine blk_drew ?_ | refine blk_alloc ?_ _)); refine blk_far ?_ NB152_168.out _; (with_reducible repeat (first | refine blk_drewN ?_ _ | refine blk_drew ?_ | refine blk_alloc ?_ _)); refine blk_far ?_ NB152_168.out _; (with_reducible repeat (first | refine blk_drewN ?_ _ | refine blk_drew ?_ | refine blk_alloc ?_ _)); refine blk_far ?_ NB152_168.out _; (with_reducible repeat (first | refine blk_drewN ?_ _ | refine blk_drew ?_ | refine blk_alloc ?_ _)); refine blk_far ?_ NB152_168.out _; (with_reducible repeat (first | refine blk_drewN ?_ _ | refine blk_drew ?_ | refine blk_alloc ?_ _)); exact BK152.out) hb); have n1_ := Aside0.mk (blk_below (g := gb168) (o := .cells #[.int .i64 (wrap64 (rd l0 5)), .int .i64 (wrap64 (rd l0 6)), .int .i64 (wrap64 (rd l0 7)), .int .i64 (wrap64 (t163)), .int .u64 t165, .int .u32 t167] 27 (0, 0)) (by (with_reducible repeat (first | refine blk_drewN ?_ _ | refine blk_drew ?_ | refine blk_alloc ?_ _)); refine blk_put (cs := #[.int .i64 (wrap64 (rd l0 5)), .int .i64 (wrap64 (rd l0 6)), .int .i64 (wrap64 (rd l0 7)), .int .i64 (wrap64 (t163)), .int .u64 t165, .int .u32 0]) ?_ 5 _ rfl; (with_reducible repeat (first | refine blk_drewN ?_ _ | refine blk_drew ?_ | refine blk_alloc ?_ _)); refine blk_put (cs := #[.int .i64 (wrap64 (rd l0 5)), .int .i64 (wrap64 (rd l0 6)), .int .i64 (wrap64 (rd l0 7)), .int .i64 (wrap64 (t163)), .int .u64 0, .int .u32 0]) ?_ 4 _ rfl; (with_reducible repeat (first | refine blk_drewN ?_ _ | refine blk_drew ?_ | refine blk_alloc ?_ _)); refine blk_put (cs := #[.int .i64 (wrap64 (rd l0 5)), .int .i64 (wrap64 (rd l0 6)), .int .i64 (wrap64 (rd l0 7)), .int .i64 0, .int .u64 0, .int .u32 0]) ?_ 3 _ rfl; (with_reducible repeat (first | refine blk_drewN ?_ _ | refine blk_drew ?_ | refine blk_alloc ?_ _)); refine blk_put (cs := #[.int .i64 (wrap64 (rd l0 5)), .int .i64 (wrap64 (rd l0 6)), .int .i64 0, .int .i64 0, .int .u64 0, .int .u32 0]) ?_ 2 _ rfl; (with_reducible repeat (first | refine blk_drewN ?_ _ | refine blk_drew ?_ | refine blk_alloc ?_ _)); refine blk_put (cs := #[.int .i64 (wrap64 (rd l0 5)), .int .i64 0, .int .i64 0, .int .i64 0, .int .u64 0, .int .u32 0]) ?_ 1 _ rfl; (with_reducible repeat (first | refine blk_drewN ?_ _ | refine blk_drew ?_ | refine blk_alloc ?_ _)); refine blk_put (cs := #[.int .i64 0, .int .i64 0, .int .i64 0, .int .i64 0, .int .u64 0, .int .u32 0]) ?_ 0 _ rfl; (with_reducible repeat (first | refine blk_drewN ?_ _ | refine blk_drew ?_ | refine blk_alloc ?_ _)); exact BK168.out) hb); have n2_ := Aside0.mk (below_step (by repeat (first | (with_reducible first | exact HB.out | apply below_alloc | apply pw_below_drewN | apply below_drew1 | refine below_set ?_ GE152.out | refine below_set ?_ GE168.out) | exact HB.out)) hb); clear BK152; clear BK168; clear HB; have BK152 := n0_; have BK168 := n1_; have HB := n2_; clear n0_ n1_ n2_; (try clear hb); (try clear hb2); (try clear hk); (try clear hi); have hcz50_0 : w49.cell? ⟨gb168, 0, none⟩ = some (.int .i64 (wrap64 (rd l0 5))) := (blk_cell BK168.out 0).trans rfl; have hcz50_1 : w49.cell? ⟨gb168, 1, none⟩ = some (.int .i64 (wrap64 (rd l0 6))) := (blk_cell BK168.out 1).trans rfl; have hcz50_2 : w49.cell? ⟨gb168, 2, none⟩ = some (.int .i64 (wrap64 (rd l0 7))) := (blk_cell BK168.out 2).trans rfl; have hcz50_3 : w49.cell? ⟨gb168, 3, none⟩ = some (.int .i64 (wrap64 (t163))) := (blk_cell BK168.out 3).trans rfl; have hcz50_4 : w49.cell? ⟨gb168, 4, none⟩ = some (.int .u64 t165) := (blk_cell BK168.out 4).trans rfl; have hcz50_5 : w49.cell? ⟨gb168, 5, none⟩ = some (.int .u32 t167) := (blk_cell BK168.out 5).trans rfl; have hfz50_0 := blk_frozen BK168.out 0; have hfz50_1 := blk_frozen BK168.out 1; have hfz50_2 := blk_frozen BK168.out 2; have hfz50_3 := blk_frozen BK168.out 3; have hfz50_4 := blk_frozen BK168.out 4; have hfz50_5 := blk_frozen BK168.out 5; have hcz51_0 : w49.cell? ⟨gb152, 0, none⟩ = some (.int .i64 0) := (blk_cell BK152.out 0).trans rfl; have hcz51_1 : w49.cell? ⟨gb152, 1, none⟩ = some (.int .i64 0) := (blk_cell BK152.out 1).trans rfl; have hcz51_2 : w49.cell? ⟨gb152, 2, none⟩ = some (.int .i64 0) := (blk_cell BK152.out 2).trans rfl; have hcz51_3 : w49.cell? ⟨gb152, 3, none⟩ = some (.int .i64 0) := (blk_cell BK152.out 3).trans rfl; have hcz51_4 : w49.cell? ⟨gb152, 4, none⟩ = some (.int .u64 0) := (blk_cell BK152.out 4).trans rfl; have hcz51_5 : w49.cell? ⟨gb152, 5, none⟩ = some (.int .u32 0) := (blk_cell BK152.out 5).trans rfl; have hfz51_0 := blk_frozen BK152.out 0; have hfz51_1 := blk_frozen BK152.out 1; have hfz51_2 := blk_frozen BK152.out 2; have hfz51_3 := blk_frozen BK152.out 3; have hfz51_4 := blk_frozen BK152.out 4; have hfz51_5 := blk_frozen BK152.out 5))
                                     refine bodyPost_ret (results_ct rfl _ _ gb152 27 #[.int .i64 (wrap64 (rd l0 5)), .int .i64 (wrap64 (rd l0 6)), .int .i64 (wrap64 (rd l0 7)), .int .i64 (wrap64 (t163)), .int .u64 t165, .int .u32 t167] (0, 0) _ rfl (by (with_reducible repeat (first | refine blk_drewN ?_ _ | refine blk_drew ?_ | refine blk_alloc ?_ _)); refine blk_put (cs := #[.int .i64 (wrap64 (rd l0 5)), .int .i64 (wrap64 (rd l0 6)), .int .i64 (wrap64 (rd l0 7)), .int .i64 (wrap64 (t163)), .int .u64 t165, .int .u32 0]) ?_ 5 _ rfl; (with_reducible repeat (first | refine blk_drewN ?_ _ | refine blk_drew ?_ | refine blk_alloc ?_ _)); refine blk_put (cs := #[.int .i64 (wrap64 (rd l0 5)), .int .i64 (wrap64 (rd l0 6)), .int .i64 (wrap64 (rd l0 7)), .int .i64 (wrap64 (t163)), .int .u64 0, .int .u32 0]) ?_ 4 _ rfl; (with_reducible repeat (first | refine blk_drewN ?_ _ | refine blk_drew ?_ | refine blk_alloc ?_ _)); refine blk_put (cs := #[.int .i64 (wrap64 (rd l0 5)), .int .i64 (wrap64 (rd l0 6)), .int .i64 (wrap64 (rd l0 7)), .int .i64 0, .int .u64 0, .int .u32 0]) ?_ 3 _ rfl; (with_reducible repeat (first | refine blk_drewN ?_ _ | refine blk_drew ?_ | refine blk_alloc ?_ _)); refine blk_put (cs := #[.int .i64 (wrap64 (rd l0 5)), .int .i64 (wrap64 (rd l0 6)), .int .i64 0, .int .i64 0, .int .u64 0, .int .u32 0]) ?_ 2 _ rfl; (with_reducible repeat (first | refine blk_drewN ?_ _ | refine blk_drew ?_ | refine blk_alloc ?_ _)); refine blk_put (cs := #[.int .i64 (wrap64 (rd l0 5)), .int .i64 0, .int .i64 0, .int .i64 0, .int .u64 0, .int .u32 0]) ?_ 1 _ rfl; (with_reducible repeat (first | refine blk_drewN ?_ _ | refine blk_drew ?_ | refine blk_alloc ?_ _)); refine blk_put (cs := #[.int .i64 0, .int .i64 0, .int .i64 0, .int .i64 0, .int .u64 0, .int .u32 0]) ?_ 0 _ rfl; (with_reducible repeat (first | refine blk_drewN ?_ _ | refine blk_drew ?_ | refine blk_alloc ?_ _)); exact BK152.out) Tryd.underlying27 rfl (by kernel_rfl)) rfl ?_
                                     exact ⟨by first | rfl | (simp [errW_none, errW_some] <;> rfl) | (simp [*, errW_none, errW_some] <;> rfl), by repeat (first | (with_reducible first | exact HB.out | apply below_alloc | apply pw_below_drewN | apply below_drew1 | refine below_set ?_ GE152.out | refine below_set ?_ GE168.out) | exact HB.out)⟩
                                   · replace c28 := Bool.eq_false_iff.mpr c28
                                     subst c28
                                     have H1 : (some (0, 0, 0, 0, 0, 0, 9)) = some (r1, r2, r3, r4, r5, r6, r7) := by rw [if_neg (show ¬ (false = true) by decide)] at H; exact H
                                     clear H
                                     have H := H1
                                     clear H1
                                     simp only [Option.some.injEq, Prod.mk.injEq] at H
                                     obtain ⟨rfl, rfl, rfl, rfl, rfl, rfl, rfl⟩ := H
                                     go_enter Tryd.func13, Tryd.ntmps13
                                     try go_wp2_with (first | ((with_reducible refine gate_dst (N := 2) rfl ?_); refine box_event ?hg (N := 2) ?hd (cs := #[.int .i64 0, .int .i64 0, .int .i64 0, .int .i64 0, .int .u64 0, .int .u32 0]) (t := 27) ?hr ?_; (case hd => rfl); (case hg => rfl); (case hr => first | (go_simp; done) | (go_simp; rfl)); intro gb152 hg w52 hbox hb; have n0_ := Aside0.mk (below_step (by repeat (first | (with_reducible first | exact HB.out | apply below_alloc | apply pw_below_drewN | apply below_drew1) | exact HB.out)) hb); have n1_ := Aside0.mk (hbox); have n2_ := Aside0.mk ((by rw [hg]; exact (below_size (by repeat (first | (with_reducible first | exact HB.out | apply below_alloc | apply pw_below_drewN | apply below_drew1) | exact HB.out))) : w.heap.size ≤ gb152)); have n3_ := Aside0.mk ((by rw [hg]; exact (below_size (by repeat (first | (with_reducible first | exact HB.out | apply below_alloc | apply pw_below_drewN | apply below_drew1) | exact HB.out))) : w.heap.size ≤ gb152)); clear HB; have HB := n0_; have BK152 := n1_; have GW152 := n2_; have GE152 := n3_; clear n0_ n1_ n2_ n3_; clear hb hbox hg; obtain ⟨i053, hi053, _, hsz53, _⟩ := info_parts info5; obtain ⟨hcut53, hA53, hC53⟩ := print_take_of (P := Tryd.prog) (Value.int .u8) 0 29 5 .i64 Tryd.underlying29 hi053 hsz53 A0 c0 l0 4 (by omega) (of_decide_eq_true (by first | (with_reducible assumption) | assumption)) HC0.out; have HR153 := Aside0.mk (Kd.C_of_reads (h1 := fun _ => rfl) (hA53 _ (Kd.reads_of_C HR0.out))); have HC153 := Aside0.mk hC53; clear hA53 hC53 hi053 hsz53; have hcv54 := Kd.C_string (P := Tryd.prog) (A := A0) (c := c0) Tryd.underlying29 Tryd.underlying5 Tryd.underlying9 (Kd.C_below HR153.out HB.out); (try simp only [List.length_take, Int.reduceToNat] at hcv54); have p154 : 0 ≤ (4 : Int) := (by omega); have q154 : 4 < (l0.length : Int) := of_decide_eq_true (by first | (with_reducible assumption) | assumption); obtain ⟨ad154, e154, hx154_0⟩ := Kd.at_int HR0.out 4 p154 q154; cases e154; (try simp only [show (4 : Int).toNat = 4 from rfl, Nat.reduceMul, Nat.reduceEqDiff, Go.Addr.add, ↓reduceIte] at hx154_0); have qi154 : (4 < l0.length) = True := eq_true (by omega); (try rw [show ((4 : Int)).toNat = 4 from rfl] at hx154_0); replace hx154_0 := (HB.out.cell (World.block_lt_of_cell? w _ hx154_0)).trans hx154_0; replace p154 := eq_true p154; replace q154 := eq_true q154))
                                     have n0_ := Aside0.mk (blk_drew BK152.out)
                                     have n1_ := Aside0.mk (below_drew1 HB.out)
                                     clear BK152
                                     clear HB
                                     have BK152 := n0_
                                     have HB := n1_
                                     clear n0_ n1_
                                     obtain ⟨i056, hi056, _, hsz56, _⟩ := info_parts info5
                                     obtain ⟨hcut56, hA56, hC56⟩ := print_take_of (P := Tryd.prog) (Value.int .u8) 0 29 5 .i64 Tryd.underlying29 hi056 hsz56 (some ad154) c0 l0 24 (by omega) (of_decide_eq_true (by first | (with_reducible assumption) | assumption)) HC0.out
                                     have HR155 := Aside0.mk (Kd.C_of_reads (h1 := fun _ => rfl) (hA56 _ (Kd.reads_of_C HR0.out)))
                                     have HC155 := Aside0.mk hC56
                                     clear hA56 hC56 hi056 hsz56
                                     obtain ⟨i057, hi057, _, hsz57, _⟩ := info_parts info5
                                     obtain ⟨A57, hcut57, hA57, hC57⟩ := print_mid_of (P := Tryd.prog) (Value.int .u8) 0 29 5 .i64 .i64 Tryd.underlying29 hi057 hsz57 (some ad154) c0 l0 24 28 (by omega) (by first | omega | exact of_decide_eq_true (by first | (with_reducible assumption) | assumption)) (of_decide_eq_true (by first | (with_reducible assumption) | assumption)) HC0.out
                                     have HR157 := Aside0.mk (Kd.C_of_reads (h1 := fun _ => rfl) (hA57 _ (Kd.reads_of_C HR0.out)))
                                     have HC157 := Aside0.mk hC57
                                     clear hA57 hC57 hi057 hsz57
                                     refine start_ (n := 8) (S := fun w' => True) (ds := []) #[false, false, false, false, false, false, false, false] (by kernel_rfl) rfl rfl trivial (fun hHeld => ?_); refine with_tabW head_Decode.tab7 head_Decode.bits7 (fun HT_ HW_ => ?_)
                                     generalize w52.drew = w55 at BK152 HB HR155 HR157 hHeld ⊢
                                     refine pure_ (i := 0) (N := some 23) (v := ?_) (a' := ?_) #[true, false, false, false, false, false, false, false] rfl rfl (any_of HT_.out (by kernel_rfl)) (fun _ _ _ h => h) (Or.inl ⟨by rfl, ?_⟩) ?_ ?_
                                     rotate_left
                                     · intro w'
                                       go_simp
                                       with_reducible rfl
                                     rotate_left
                                     · simp only [Act.put, List.setIfInBounds_toArray, List.set_cons_zero, List.set_cons_succ, i64_w, i32_w]
                                       rfl
                                     refine pure_ (i := 1) (N := some 24) (v := ?_) (a' := ?_) #[true, true, false, false, false, false, false, false] rfl rfl (any_of HT_.out (by kernel_rfl)) (fun _ _ _ h => h) (Or.inl ⟨by rfl, ?_⟩) ?_ ?_
                                     rotate_left
                                     · intro w'
                                       go_simp
                                       with_reducible rfl
                                     rotate_left
                                     · simp only [Act.put, List.setIfInBounds_toArray, List.set_cons_zero, List.set_cons_succ, i64_w, i32_w]
                                       rfl
                                     refine pure_ (i := 3) (N := some 26) (v := ?_) (a' := ?_) #[true, true, false, true, false, false, false, false] rfl rfl (any_of HT_.out (by kernel_rfl)) (fun _ _ _ h => h) (Or.inl ⟨by rfl, ?_⟩) ?_ ?_
                                     rotate_left
                                     · intro w'
                                       go_simp
                                       with_reducible rfl
                                     rotate_left
                                     · simp only [Act.put, List.setIfInBounds_toArray, List.set_cons_zero, List.set_cons_succ, i64_w, i32_w]
                                       rfl
                                     refine pure_ (i := 4) (N := some 27) (v := ?_) (a' := ?_) #[true, true, false, true, true, false, false, false] rfl rfl (any_of HT_.out (by kernel_rfl)) (fun _ _ _ h => h) (Or.inl ⟨by rfl, ?_⟩) ?_ ?_
                                     rotate_left
                                     · intro w'
                                       go_simp
                                       with_reducible rfl
                                     rotate_left
                                     · simp only [Act.put, List.setIfInBounds_toArray, List.set_cons_zero, List.set_cons_succ, i64_w, i32_w]
                                       rfl
                                     refine one_ (i := 2) (N := some 25) #[true, true, true, true, true, false, false, false] rfl rfl (one_of HT_.out (by kernel_rfl)) (by decide) (fun K hK => ?_)
                                     refine goes_ Tryd.func16 (by kernel_rfl) rfl #[.slice (some ad154) (l0.take 24).length c0] (by rfl) rfl rfl (by (try simp only [List.map_toArray, List.map_cons, List.map_nil]); first | done | (rw [show (l0.take 24).length = 24 from (by rw [List.length_take]; have h_ : (24 : Int) ≤ (l0.length : Int) := of_decide_eq_true (by first | (with_reducible assumption) | assumption); omega)] <;> rfl) | rfl | (simp only [List.length_drop, List.length_take]; rfl)) ?_
                                     with_reducible refine (crc_Sum.calls k _ _ (l0.take 24) t156 _ ?side1 ?side2 A10.out).mono ?_
                                     (case side1 => repeat (first | exact (Kd.C_below HR155.out HB.out) | (with_reducible refine Kd.C_alloc ?_ _) | (with_reducible refine Kd.C_drewN ?_ _) | (with_reducible refine Kd.C_drew ?_)))
                                     (case side2 => exact HC155.out)
                                     rintro e w' ⟨rfl, ⟨nd, rfl⟩⟩
                                     refine ⟨_, rfl, ?_⟩
                                     refine hK.out _ _ trivial (fun hHeld => ?_)
                                     clear hK K
                                     refine norm_ (a' := ?_) ?_ ?_
                                     rotate_left
                                     · show Act.put _ (some 25) _ = _
                                       simp only [Act.put, List.setIfInBounds_toArray, List.set_cons_zero, List.set_cons_succ, i64_w, i32_w]
                                       rfl
                                     refine one_ (i := 5) (N := some 28) #[true, true, true, true, true, true, false, false] rfl rfl (one_of HT_.out (by kernel_rfl)) (by decide) (fun K hK => ?_)
                                     refine goes_ Tryd.func25 (by kernel_rfl) rfl #[.slice A57 ((l0.take 28).drop 24).length (c0 - 24)] (by rfl) rfl rfl (by (try simp only [List.map_toArray, List.map_cons, List.map_nil]); first | done | (rw [show ((l0.take 28).drop 24).length = (28 - 24) from (by rw [List.length_drop, List.length_take]; have h_ : (28 : Int) ≤ (l0.length : Int) := of_decide_eq_true (by first | (with_reducible assumption) | assumption); omega)] <;> rfl) | rfl | (simp only [List.length_drop, List.length_take]; rfl)) ?_
                                     with_reducible refine (head_take_uint32.calls k _ _ ((l0.take 28).drop 24) t158 _ ?side1 ?side2 A13.out).mono ?_
                                     (case side1 => repeat (first | exact (Kd.C_below HR157.out (by repeat (first | (with_reducible first | exact HB.out | apply below_alloc | apply pw_below_drewN | apply below_drew1 | refine below_set ?_ GE152.out) | exact HB.out))) | (with_reducible refine Kd.C_alloc ?_ _) | (with_reducible refine Kd.C_drewN ?_ _) | (with_reducible refine Kd.C_drew ?_)))
                                     (case side2 => exact HC157.out)
                                     rintro e w' ⟨rfl, ⟨nd, rfl⟩⟩
                                     refine ⟨_, rfl, ?_⟩
                                     refine hK.out _ _ trivial (fun hHeld => ?_)
                                     clear hK K
                                     refine norm_ (a' := ?_) ?_ ?_
                                     rotate_left
                                     · show Act.put _ (some 28) _ = _
                                       simp only [Act.put, List.setIfInBounds_toArray, List.set_cons_zero, List.set_cons_succ, i64_w, i32_w]
                                       rfl
                                     refine pure_ (i := 6) (N := some 29) (v := ?_) (a' := ?_) #[true, true, true, true, true, true, true, false] rfl rfl (any_of HT_.out (by kernel_rfl)) (fun _ _ _ h => h) (Or.inl ⟨by rfl, ?_⟩) ?_ ?_
                                     rotate_left
                                     · intro w'
                                       go_simp
                                       with_reducible rfl
                                     rotate_left
                                     · simp only [Act.put, List.setIfInBounds_toArray, List.set_cons_zero, List.set_cons_succ, i64_w, i32_w]
                                       rfl
                                     refine pure_ (i := 7) (N := some 22) (v := ?_) (a' := ?_) #[true, true, true, true, true, true, true, true] rfl rfl (any_of HT_.out (by kernel_rfl)) (fun _ _ _ h => h) (Or.inl ⟨by rfl, ?_⟩) ?_ ?_
                                     rotate_left
                                     · intro w'
                                       go_simp
                                       with_reducible rfl
                                     rotate_left
                                     · simp only [Act.put, List.setIfInBounds_toArray, List.set_cons_zero, List.set_cons_succ, i64_w, i32_w]
                                       rfl
                                     refine done_ (done_of HT_.out (by kernel_rfl)) ?_
                                     try go_wp2
                                     (try (rw [drewN_self w55]; generalize hq_ : World.drewN w55 _ = w55; have n0_ : Aside0 (w55.heap[gb152]? = some (.cells #[.int .i64 0, .int .i64 0, .int .i64 0, .int .i64 0, .int .u64 0, .int .u32 0] 27 (0, 0))) := ⟨by rw [← hq_]; exact (by (with_reducible repeat (first | refine blk_drewN ?_ _ | refine blk_drew ?_ | refine blk_alloc ?_ _)); exact BK152.out)⟩; have n1_ : Aside0 (Below w.heap.size w w55) := ⟨by rw [← hq_]; exact (by repeat (first | (with_reducible first | exact HB.out | apply below_alloc | apply pw_below_drewN | apply below_drew1 | refine below_set ?_ GE152.out) | exact HB.out))⟩; clear BK152 HB hq_; have BK152 := n0_; have HB := n1_; clear n0_ n1_))
                                     (try (rw [drewN_self w55]; generalize hq_ : World.drewN w55 _ = w55; have n0_ : Aside0 (w55.heap[gb152]? = some (.cells #[.int .i64 0, .int .i64 0, .int .i64 0, .int .i64 0, .int .u64 0, .int .u32 0] 27 (0, 0))) := ⟨by rw [← hq_]; exact (by (with_reducible repeat (first | refine blk_drewN ?_ _ | refine blk_drew ?_ | refine blk_alloc ?_ _)); exact BK152.out)⟩; have n1_ : Aside0 (Below w.heap.size w w55) := ⟨by rw [← hq_]; exact (by repeat (first | (with_reducible first | exact HB.out | apply below_alloc | apply pw_below_drewN | apply below_drew1 | refine below_set ?_ GE152.out) | exact HB.out))⟩; clear BK152 HB hq_; have BK152 := n0_; have HB := n1_; clear n0_ n1_))
                                     have n0_ := Aside0.mk (blk_drew BK152.out)
                                     have n1_ := Aside0.mk (below_drew1 HB.out)
                                     clear BK152
                                     clear HB
                                     have BK152 := n0_
                                     have HB := n1_
                                     clear n0_ n1_
                                     have p159 : 0 ≤ (5 : Int) := (by omega)
                                     have q159 : 5 < (l0.length : Int) := of_decide_eq_true (by first | (with_reducible assumption) | assumption)
                                     obtain ⟨ad159, e159, hx159_0⟩ := Kd.at_int HR0.out 5 p159 q159
                                     have hw159_0 := hx159_0
                                     (try rw [show ((5 : Int)).toNat = 5 from rfl] at hw159_0)
                                     (try rw [show 5 * 1 = 5 from rfl] at hw159_0)
                                     (try simp only [Nat.reduceMul, Nat.reduceEqDiff, Go.Addr.add, ↓reduceIte] at hw159_0)
                                     obtain rfl : ad154 = ad159 := (by injection e159)
                                     (try simp only [show (5 : Int).toNat = 5 from rfl, Nat.reduceMul, Nat.reduceEqDiff, Go.Addr.add, ↓reduceIte] at hx159_0)
                                     have qi159 : (5 < l0.length) = True := eq_true (by omega)
                                     (try rw [show ((5 : Int)).toNat = 5 from rfl] at hx159_0)
                                     replace hx159_0 := (HB.out.cell (World.block_lt_of_cell? w _ hx159_0)).trans hx159_0
                                     replace p159 := eq_true p159
                                     replace q159 := eq_true q159
                                     have p160 : 0 ≤ (6 : Int) := (by omega)
                                     have q160 : 6 < (l0.length : Int) := of_decide_eq_true (by first | (with_reducible assumption) | assumption)
                                     obtain ⟨ad160, e160, hx160_0⟩ := Kd.at_int HR0.out 6 p160 q160
                                     have hw160_0 := hx160_0
                                     (try rw [show ((6 : Int)).toNat = 6 from rfl] at hw160_0)
                                     (try rw [show 6 * 1 = 6 from rfl] at hw160_0)
                                     (try simp only [Nat.reduceMul, Nat.reduceEqDiff, Go.Addr.add, ↓reduceIte] at hw160_0)
                                     obtain rfl : ad154 = ad160 := (by injection e160)
                                     (try simp only [show (6 : Int).toNat = 6 from rfl, Nat.reduceMul, Nat.reduceEqDiff, Go.Addr.add, ↓reduceIte] at hx160_0)
                                     have qi160 : (6 < l0.length) = True := eq_true (by omega)
                                     (try rw [show ((6 : Int)).toNat = 6 from rfl] at hx160_0)
                                     replace hx160_0 := (HB.out.cell (World.block_lt_of_cell? w _ hx160_0)).trans hx160_0
                                     replace p160 := eq_true p160
                                     replace q160 := eq_true q160
                                     have p161 : 0 ≤ (7 : Int) := (by omega)
                                     have q161 : 7 < (l0.length : Int) := of_decide_eq_true (by first | (with_reducible assumption) | assumption)
                                     obtain ⟨ad161, e161, hx161_0⟩ := Kd.at_int HR0.out 7 p161 q161
                                     have hw161_0 := hx161_0
                                     (try rw [show ((7 : Int)).toNat = 7 from rfl] at hw161_0)
                                     (try rw [show 7 * 1 = 7 from rfl] at hw161_0)
                                     (try simp only [Nat.reduceMul, Nat.reduceEqDiff, Go.Addr.add, ↓reduceIte] at hw161_0)
                                     obtain rfl : ad154 = ad161 := (by injection e161)
                                     (try simp only [show (7 : Int).toNat = 7 from rfl, Nat.reduceMul, Nat.reduceEqDiff, Go.Addr.add, ↓reduceIte] at hx161_0)
                                     have qi161 : (7 < l0.length) = True := eq_true (by omega)
                                     (try rw [show ((7 : Int)).toNat = 7 from rfl] at hx161_0)
                                     replace hx161_0 := (HB.out.cell (World.block_lt_of_cell? w _ hx161_0)).trans hx161_0
                                     replace p161 := eq_true p161
                                     replace q161 := eq_true q161
                                     obtain ⟨i059, hi059, _, hsz59, _⟩ := info_parts info5
                                     obtain ⟨A59, hcut59, hA59, hC59⟩ := print_mid_of (P := Tryd.prog) (Value.int .u8) 0 29 5 .i64 .i64 Tryd.underlying29 hi059 hsz59 (some ad154) c0 l0 8 12 (by omega) (by first | omega | exact of_decide_eq_true (by first | (with_reducible assumption) | assumption)) (of_decide_eq_true (by first | (with_reducible assumption) | assumption)) HC0.out
                                     have HR162 := Aside0.mk (Kd.C_of_reads (h1 := fun _ => rfl) (hA59 _ (Kd.reads_of_C HR0.out)))
                                     have HC162 := Aside0.mk hC59
                                     clear hA59 hC59 hi059 hsz59
                                     obtain ⟨i060, hi060, _, hsz60, _⟩ := info_parts info5
                                     obtain ⟨A60, hcut60, hA60, hC60⟩ := print_mid_of (P := Tryd.prog) (Value.int .u8) 0 29 5 .i64 .i64 Tryd.underlying29 hi060 hsz60 (some ad154) c0 l0 12 20 (by omega) (by first | omega | exact of_decide_eq_true (by first | (with_reducible assumption) | assumption)) (of_decide_eq_true (by first | (with_reducible assumption) | assumption)) HC0.out
                                     have HR164 := Aside0.mk (Kd.C_of_reads (h1 := fun _ => rfl) (hA60 _ (Kd.reads_of_C HR0.out)))
                                     have HC164 := Aside0.mk hC60
                                     clear hA60 hC60 hi060 hsz60
                                     obtain ⟨i061, hi061, _, hsz61, _⟩ := info_parts info5
                                     obtain ⟨A61, hcut61, hA61, hC61⟩ := print_mid_of (P := Tryd.prog) (Value.int .u8) 0 29 5 .i64 .i64 Tryd.underlying29 hi061 hsz61 (some ad154) c0 l0 20 24 (by omega) (by first | omega | exact of_decide_eq_true (by first | (with_reducible assumption) | assumption)) (of_decide_eq_true (by first | (with_reducible assumption) | assumption)) HC0.out
                                     have HR166 := Aside0.mk (Kd.C_of_reads (h1 := fun _ => rfl) (hA61 _ (Kd.reads_of_C HR0.out)))
                                     have HC166 := Aside0.mk hC61
                                     clear hA61 hC61 hi061 hsz61
                                     refine start_ (n := 26) (S := fun w' => w'.cell? ⟨ad154.block, ad154.off + 5, none⟩ = some (.int .u8 (rd l0 5)) ∧ w'.cell? ⟨ad154.block, ad154.off + 6, none⟩ = some (.int .u8 (rd l0 6)) ∧ w'.cell? ⟨ad154.block, ad154.off + 7, none⟩ = some (.int .u8 (rd l0 7))) (ds := []) #[false, false, false, false, false, false, false, false, false, false, false, false, false, false, false, false, false, false, false, false, false, false, false, false, false, false] (by kernel_rfl) rfl rfl ⟨((HB.out.cell (World.block_lt_of_cell? w _ hw159_0)).trans hw159_0), ((HB.out.cell (World.block_lt_of_cell? w _ hw160_0)).trans hw160_0), ((HB.out.cell (World.block_lt_of_cell? w _ hw161_0)).trans hw161_0)⟩ (fun hHeld => ?_); refine with_tabW head_Decode.tab9 head_Decode.bits9 (fun HT_ HW_ => ?_)
                                     generalize w55.drew = w58 at BK152 HB HR162 HR164 HR166 hx159_0 hx160_0 hx161_0 hHeld ⊢
                                     refine pure_ (i := 0) (N := some 31) (v := ?_) (a' := ?_) #[true, false, false, false, false, false, false, false, false, false, false, false, false, false, false, false, false, false, false, false, false, false, false, false, false, false] rfl rfl (any_of HT_.out (by kernel_rfl)) (fun _ _ _ h => h) (Or.inl ⟨by rfl, ?_⟩) ?_ ?_
                                     rotate_left
                                     · intro w'
                                       go_simp
                                       with_reducible rfl
                                     rotate_left
                                     · simp only [Act.put, List.setIfInBounds_toArray, List.set_cons_zero, List.set_cons_succ, i64_w, i32_w]
                                       rfl
                                     refine pure_ (i := 1) (N := some 32) (v := ?_) (a' := ?_) #[true, true, false, false, false, false, false, false, false, false, false, false, false, false, false, false, false, false, false, false, false, false, false, false, false, false] rfl rfl (any_of HT_.out (by kernel_rfl)) (fun _ _ _ h => h) (Or.inl ⟨by rfl, ?_⟩) ?_ ?_
                                     rotate_left
                                     · intro w'
                                       go_simp
                                       with_reducible rfl
                                     rotate_left
                                     · simp only [Act.put, List.setIfInBounds_toArray, List.set_cons_zero, List.set_cons_succ, i64_w, i32_w]
                                       rfl
                                     refine pure_ (i := 4) (N := some 35) (v := ?_) (a' := ?_) #[true, true, false, false, true, false, false, false, false, false, false, false, false, false, false, false, false, false, false, false, false, false, false, false, false, false] rfl rfl (any_of HT_.out (by kernel_rfl)) (fun _ _ _ h => h) (Or.inl ⟨by rfl, ?_⟩) ?_ ?_
                                     rotate_left
                                     · intro w'
                                       go_simp
                                       with_reducible rfl
                                     rotate_left
                                     · simp only [Act.put, List.setIfInBounds_toArray, List.set_cons_zero, List.set_cons_succ, i64_w, i32_w]
                                       rfl
                                     refine pure_ (i := 5) (N := some 36) (v := ?_) (a' := ?_) #[true, true, false, false, true, true, false, false, false, false, false, false, false, false, false, false, false, false, false, false, false, false, false, false, false, false] rfl rfl (any_of HT_.out (by kernel_rfl)) (fun _ _ _ h => h) (Or.inl ⟨by rfl, ?_⟩) ?_ ?_
                                     rotate_left
                                     · intro w'
                                       go_simp
                                       with_reducible rfl
                                     rotate_left
                                     · simp only [Act.put, List.setIfInBounds_toArray, List.set_cons_zero, List.set_cons_succ, i64_w, i32_w]
                                       rfl
                                     refine pure_ (i := 8) (N := some 39) (v := ?_) (a' := ?_) #[true, true, false, false, true, true, false, false, true, false, false, false, false, false, false, false, false, false, false, false, false, false, false, false, false, false] rfl rfl (any_of HT_.out (by kernel_rfl)) (fun _ _ _ h => h) (Or.inl ⟨by rfl, ?_⟩) ?_ ?_
                                     rotate_left
                                     · intro w'
                                       go_simp
                                       with_reducible rfl
                                     rotate_left
                                     · simp only [Act.put, List.setIfInBounds_toArray, List.set_cons_zero, List.set_cons_succ, i64_w, i32_w]
                                       rfl
                                     refine pure_ (i := 9) (N := some 40) (v := ?_) (a' := ?_) #[true, true, false, false, true, true, false, false, true, true, false, false, false, false, false, false, false, false, false, false, false, false, false, false, false, false] rfl rfl (any_of HT_.out (by kernel_rfl)) (fun _ _ _ h => h) (Or.inl ⟨by rfl, ?_⟩) ?_ ?_
                                     rotate_left
                                     · intro w'
                                       go_simp
                                       with_reducible rfl
                                     rotate_left
                                     · simp only [Act.put, List.setIfInBounds_toArray, List.set_cons_zero, List.set_cons_succ, i64_w, i32_w]
                                       rfl
                                     refine pure_ (i := 13) (N := some 44) (v := ?_) (a' := ?_) #[true, true, false, false, true, true, false, false, true, true, false, false, false, true, false, false, false, false, false, false, false, false, false, false, false, false] rfl rfl (any_of HT_.out (by kernel_rfl)) (fun _ _ _ h => h) (Or.inl ⟨by rfl, ?_⟩) ?_ ?_
                                     rotate_left
                                     · intro w'
                                       go_simp
                                       with_reducible rfl
                                     rotate_left
                                     · simp only [Act.put, List.setIfInBounds_toArray, List.set_cons_zero, List.set_cons_succ, i64_w, i32_w]
                                       rfl
                                     refine pure_ (i := 14) (N := some 45) (v := ?_) (a' := ?_) #[true, true, false, false, true, true, false, false, true, true, false, false, false, true, true, false, false, false, false, false, false, false, false, false, false, false] rfl rfl (any_of HT_.out (by kernel_rfl)) (fun _ _ _ h => h) (Or.inl ⟨by rfl, ?_⟩) ?_ ?_
                                     rotate_left
                                     · intro w'
                                       go_simp
                                       with_reducible rfl
                                     rotate_left
                                     · simp only [Act.put, List.setIfInBounds_toArray, List.set_cons_zero, List.set_cons_succ, i64_w, i32_w]
                                       rfl
                                     refine pure_ (i := 17) (N := some 48) (v := ?_) (a' := ?_) #[true, true, false, false, true, true, false, false, true, true, false, false, false, true, true, false, false, true, false, false, false, false, false, false, false, false] rfl rfl (any_of HT_.out (by kernel_rfl)) (fun _ _ _ h => h) (Or.inl ⟨by rfl, ?_⟩) ?_ ?_
                                     rotate_left
                                     · intro w'
                                       go_simp
                                       with_reducible rfl
                                     rotate_left
                                     · simp only [Act.put, List.setIfInBounds_toArray, List.set_cons_zero, List.set_cons_succ, i64_w, i32_w]
                                       rfl
                                     refine pure_ (i := 18) (N := some 49) (v := ?_) (a' := ?_) #[true, true, false, false, true, true, false, false, true, true, false, false, false, true, true, false, false, true, true, false, false, false, false, false, false, false] rfl rfl (any_of HT_.out (by kernel_rfl)) (fun _ _ _ h => h) (Or.inl ⟨by rfl, ?_⟩) ?_ ?_
                                     rotate_left
                                     · intro w'
                                       go_simp
                                       with_reducible rfl
                                     rotate_left
                                     · simp only [Act.put, List.setIfInBounds_toArray, List.set_cons_zero, List.set_cons_succ, i64_w, i32_w]
                                       rfl
                                     refine pure_ (i := 20) (N := some 51) (v := ?_) (a' := ?_) #[true, true, false, false, true, true, false, false, true, true, false, false, false, true, true, false, false, true, true, false, true, false, false, false, false, false] rfl rfl (any_of HT_.out (by kernel_rfl)) (fun _ _ _ h => h) (Or.inl ⟨by rfl, ?_⟩) ?_ ?_
                                     rotate_left
                                     · intro w'
                                       go_simp
                                       with_reducible rfl
                                     rotate_left
                                     · simp only [Act.put, List.setIfInBounds_toArray, List.set_cons_zero, List.set_cons_succ, i64_w, i32_w]
                                       rfl
                                     refine pure_ (i := 21) (N := some 52) (v := ?_) (a' := ?_) #[true, true, false, false, true, true, false, false, true, true, false, false, false, true, true, false, false, true, true, false, true, true, false, false, false, false] rfl rfl (any_of HT_.out (by kernel_rfl)) (fun _ _ _ h => h) (Or.inl ⟨by rfl, ?_⟩) ?_ ?_
                                     rotate_left
                                     · intro w'
                                       go_simp
                                       with_reducible rfl
                                     rotate_left
                                     · simp only [Act.put, List.setIfInBounds_toArray, List.set_cons_zero, List.set_cons_succ, i64_w, i32_w]
                                       rfl
                                     refine take_ (i := 2) (N := some 33) (v := ?_) (a' := ?_) #[true, true, true, false, true, true, false, false, true, true, false, false, false, true, true, false, false, true, true, false, true, true, false, false, false, false] rfl rfl (take_ofW HT_.out HW_.out (by kernel_rfl)) (fun _ _ _ h => h) (Or.inl ⟨by rfl, ?_⟩) hHeld ?_ ?_
                                     rotate_left
                                     · rintro w' ⟨s0, s1, s2⟩
                                       go_simp
                                       with_reducible rfl
                                     rotate_left
                                     · simp only [Act.put, List.setIfInBounds_toArray, List.set_cons_zero, List.set_cons_succ, i64_w, i32_w]
                                       rfl
                                     refine pure_ (i := 3) (N := some 34) (v := ?_) (a' := ?_) #[true, true, true, true, true, true, false, false, true, true, false, false, false, true, true, false, false, true, true, false, true, true, false, false, false, false] rfl rfl (any_of HT_.out (by kernel_rfl)) (fun _ _ _ h => h) (Or.inl ⟨by rfl, ?_⟩) ?_ ?_
                                     rotate_left
                                     · intro w'
                                       go_simp
                                       with_reducible rfl
                                     rotate_left
                                     · simp only [Act.put, List.setIfInBounds_toArray, List.set_cons_zero, List.set_cons_succ, i64_w, i32_w]
                                       rfl
                                     refine take_ (i := 6) (N := some 37) (v := ?_) (a' := ?_) #[true, true, true, true, true, true, true, false, true, true, false, false, false, true, true, false, false, true, true, false, true, true, false, false, false, false] rfl rfl (take_ofW HT_.out HW_.out (by kernel_rfl)) (fun _ _ _ h => h) (Or.inl ⟨by rfl, ?_⟩) hHeld ?_ ?_
                                     rotate_left
                                     · rintro w' ⟨s0, s1, s2⟩
                                       go_simp
                                       with_reducible rfl
                                     rotate_left
                                     · simp only [Act.put, List.setIfInBounds_toArray, List.set_cons_zero, List.set_cons_succ, i64_w, i32_w]
                                       rfl
                                     refine pure_ (i := 7) (N := some 38) (v := ?_) (a' := ?_) #[true, true, true, true, true, true, true, true, true, true, false, false, false, true, true, false, false, true, true, false, true, true, false, false, false, false] rfl rfl (any_of HT_.out (by kernel_rfl)) (fun _ _ _ h => h) (Or.inl ⟨by rfl, ?_⟩) ?_ ?_
                                     rotate_left
                                     · intro w'
                                       go_simp
                                       with_reducible rfl
                                     rotate_left
                                     · simp only [Act.put, List.setIfInBounds_toArray, List.set_cons_zero, List.set_cons_succ, i64_w, i32_w]
                                       rfl
                                     refine take_ (i := 10) (N := some 41) (v := ?_) (a' := ?_) #[true, true, true, true, true, true, true, true, true, true, true, false, false, true, true, false, false, true, true, false, true, true, false, false, false, false] rfl rfl (take_ofW HT_.out HW_.out (by kernel_rfl)) (fun _ _ _ h => h) (Or.inl ⟨by rfl, ?_⟩) hHeld ?_ ?_
                                     rotate_left
                                     · rintro w' ⟨s0, s1, s2⟩
                                       go_simp
                                       with_reducible rfl
                                     rotate_left
                                     · simp only [Act.put, List.setIfInBounds_toArray, List.set_cons_zero, List.set_cons_succ, i64_w, i32_w]
                                       rfl
                                     refine pure_ (i := 11) (N := some 42) (v := ?_) (a' := ?_) #[true, true, true, true, true, true, true, true, true, true, true, true, false, true, true, false, false, true, true, false, true, true, false, false, false, false] rfl rfl (any_of HT_.out (by kernel_rfl)) (fun _ _ _ h => h) (Or.inl ⟨by rfl, ?_⟩) ?_ ?_
                                     rotate_left
                                     · intro w'
                                       go_simp
                                       with_reducible rfl
                                     rotate_left
                                     · simp only [Act.put, List.setIfInBounds_toArray, List.set_cons_zero, List.set_cons_succ, i64_w, i32_w]
                                       rfl
                                     refine pure_ (i := 12) (N := some 43) (v := ?_) (a' := ?_) #[true, true, true, true, true, true, true, true, true, true, true, true, true, true, true, false, false, true, true, false, true, true, false, false, false, false] rfl rfl (any_of HT_.out (by kernel_rfl)) (fun _ _ _ h => h) (Or.inl ⟨by rfl, ?_⟩) ?_ ?_
                                     rotate_left
                                     · intro w'
                                       go_simp
                                       with_reducible rfl
                                     rotate_left
                                     · simp only [Act.put, List.setIfInBounds_toArray, List.set_cons_zero, List.set_cons_succ, i64_w, i32_w]
                                       rfl
                                     refine join_ (σ := Nat) 1 #[true, true, true, true, true, true, true, true, true, true, true, true, true, true, true, true, true, true, true, true, true, true, true, true, true, false] (fun s_ => [(46, .int .u32 t163), (50, .int .u64 t165), (53, .int .u32 t167), (4, .pointer (some ⟨s_, 0, none⟩)), (47, .int .i64 (wrap64 (t163))), (54, .agg #[.int .i64 (wrap64 (rd l0 5)), .int .i64 (wrap64 (rd l0 6)), .int .i64 (wrap64 (rd l0 7)), .int .i64 (wrap64 (t163)), .int .u64 t165, .int .u32 t167])]) (fun s_ w' => (w'.cell? ⟨ad154.block, ad154.off + 5, none⟩ = some (.int .u8 (rd l0 5)) ∧ w'.cell? ⟨ad154.block, ad154.off + 6, none⟩ = some (.int .u8 (rd l0 6)) ∧ w'.cell? ⟨ad154.block, ad154.off + 7, none⟩ = some (.int .u8 (rd l0 7))) ∧ (w'.heap[gb152]? = some (.cells #[.int .i64 0, .int .i64 0, .int .i64 0, .int .i64 0, .int .u64 0, .int .u32 0] 27 (0, 0))) ∧ (w'.heap[s_]? = some (.cells #[.int .i64 0, .int .i64 0, .int .i64 0, .int .i64 0, .int .u64 0, .int .u32 0] 27 (0, 0))) ∧ (w.heap.size ≤ s_) ∧ (w.heap.size ≤ s_) ∧ (gb152 ≠ s_) ∧ (s_ ≠ gb152) ∧ (Below w.heap.size w w')) ?_ ?_
                                     rotate_left
                                     · intro hCont
                                       refine two_ (i := 15) (j := 24) (Ni := some 46) (Nj := some 4) #[true, true, true, true, true, true, true, true, true, true, true, true, true, true, true, true, false, true, true, false, true, true, false, false, false, false] #[true, true, true, true, true, true, true, true, true, true, true, true, true, true, true, false, false, true, true, false, true, true, false, false, true, false] rfl rfl rfl rfl (two_of HT_.out (by kernel_rfl)) (by decide) (by decide) (fun K hK => ?_) (fun K hK => ?_)
                                       · skip
                                         refine goes_ Tryd.func25 (by kernel_rfl) rfl #[.slice A59 ((l0.take 12).drop 8).length (c0 - 8)] (by rfl) rfl rfl (by (try simp only [List.map_toArray, List.map_cons, List.map_nil]); first | done | (rw [show ((l0.take 12).drop 8).length = (12 - 8) from (by rw [List.length_drop, List.length_take]; have h_ : (12 : Int) ≤ (l0.length : Int) := of_decide_eq_true (by first | (with_reducible assumption) | assumption); omega)] <;> rfl) | rfl | (simp only [List.length_drop, List.length_take]; rfl)) ?_
                                         with_reducible refine (head_take_uint32.calls k _ _ ((l0.take 12).drop 8) t163 _ ?side1 ?side2 A20.out).mono ?_
                                         (case side1 => repeat (first | exact (Kd.C_below HR162.out HB.out) | (with_reducible refine Kd.C_alloc ?_ _) | (with_reducible refine Kd.C_drewN ?_ _) | (with_reducible refine Kd.C_drew ?_)))
                                         (case side2 => exact HC162.out)
                                         rintro e w' ⟨rfl, ⟨nd, rfl⟩⟩
                                         refine ⟨_, rfl, ?_⟩
                                         refine hK.out _ _ ⟨((HB.out.cell (World.block_lt_of_cell? w _ hw159_0)).trans hw159_0), ((HB.out.cell (World.block_lt_of_cell? w _ hw160_0)).trans hw160_0), ((HB.out.cell (World.block_lt_of_cell? w _ hw161_0)).trans hw161_0)⟩ (fun hHeld => ?_)
                                         clear hK K
                                         refine norm_ (a' := ?_) ?_ ?_
                                         rotate_left
                                         · show Act.put _ (some 46) _ = _
                                           simp only [Act.put, List.setIfInBounds_toArray, List.set_cons_zero, List.set_cons_succ, i64_w, i32_w]
                                           rfl
                                         refine pure_ (i := 16) (N := some 47) (v := ?_) (a' := ?_) #[true, true, true, true, true, true, true, true, true, true, true, true, true, true, true, true, true, true, true, false, true, true, false, false, false, false] rfl rfl (any_of HT_.out (by kernel_rfl)) (fun _ _ _ h => h) (Or.inl ⟨by rfl, ?_⟩) ?_ ?_
                                         rotate_left
                                         · intro w'
                                           go_simp
                                           with_reducible rfl
                                         rotate_left
                                         · simp only [Act.put, List.setIfInBounds_toArray, List.set_cons_zero, List.set_cons_succ, i64_w, i32_w]
                                           rfl
                                         refine two_ (i := 19) (j := 24) (Ni := some 50) (Nj := some 4) #[true, true, true, true, true, true, true, true, true, true, true, true, true, true, true, true, true, true, true, true, true, true, false, false, false, false] #[true, true, true, true, true, true, true, true, true, true, true, true, true, true, true, true, true, true, true, false, true, true, false, false, true, false] rfl rfl rfl rfl (two_of HT_.out (by kernel_rfl)) (by decide) (by decide) (fun K hK => ?_) (fun K hK => ?_)
                                         · skip
                                           refine goes_ Tryd.func26 (by kernel_rfl) rfl #[.slice A60 ((l0.take 20).drop 12).length (c0 - 12)] (by rfl) rfl rfl (by (try simp only [List.map_toArray, List.map_cons, List.map_nil]); first | done | (rw [show ((l0.take 20).drop 12).length = (20 - 12) from (by rw [List.length_drop, List.length_take]; have h_ : (20 : Int) ≤ (l0.length : Int) := of_decide_eq_true (by first | (with_reducible assumption) | assumption); omega)] <;> rfl) | rfl | (simp only [List.length_drop, List.length_take]; rfl)) ?_
                                           with_reducible refine (head_take_uint64.calls k _ _ ((l0.take 20).drop 12) t165 _ ?side1 ?side2 A23.out).mono ?_
                                           (case side1 => repeat (first | exact (Kd.C_below HR164.out (by repeat (first | (with_reducible first | exact HB.out | apply below_alloc | apply pw_below_drewN | apply below_drew1 | refine below_set ?_ GE152.out) | exact HB.out))) | (with_reducible refine Kd.C_alloc ?_ _) | (with_reducible refine Kd.C_drewN ?_ _) | (with_reducible refine Kd.C_drew ?_)))
                                           (case side2 => exact HC164.out)
                                           rintro e w' ⟨rfl, ⟨nd, rfl⟩⟩
                                           refine ⟨_, rfl, ?_⟩
                                           refine hK.out _ _ ⟨((HB.out.cell (World.block_lt_of_cell? w _ hw159_0)).trans hw159_0), ((HB.out.cell (World.block_lt_of_cell? w _ hw160_0)).trans hw160_0), ((HB.out.cell (World.block_lt_of_cell? w _ hw161_0)).trans hw161_0)⟩ (fun hHeld => ?_)
                                           clear hK K
                                           refine norm_ (a' := ?_) ?_ ?_
                                           rotate_left
                                           · show Act.put _ (some 50) _ = _
                                             simp only [Act.put, List.setIfInBounds_toArray, List.set_cons_zero, List.set_cons_succ, i64_w, i32_w]
                                             rfl
                                           refine two_ (i := 22) (j := 24) (Ni := some 53) (Nj := some 4) #[true, true, true, true, true, true, true, true, true, true, true, true, true, true, true, true, true, true, true, true, true, true, true, false, false, false] #[true, true, true, true, true, true, true, true, true, true, true, true, true, true, true, true, true, true, true, true, true, true, false, false, true, false] rfl rfl rfl rfl (two_of HT_.out (by kernel_rfl)) (by decide) (by decide) (fun K hK => ?_) (fun K hK => ?_)
                                           · skip
                                             refine goes_ Tryd.func25 (by kernel_rfl) rfl #[.slice A61 ((l0.take 24).drop 20).length (c0 - 20)] (by rfl) rfl rfl (by (try simp only [List.map_toArray, List.map_cons, List.map_nil]); first | done | (rw [show ((l0.take 24).drop 20).length = (24 - 20) from (by rw [List.length_drop, List.length_take]; have h_ : (24 : Int) ≤ (l0.length : Int) := of_decide_eq_true (by first | (with_reducible assumption) | assumption); omega)] <;> rfl) | rfl | (simp only [List.length_drop, List.length_take]; rfl)) ?_
                                             with_reducible refine (head_take_uint32.calls k _ _ ((l0.take 24).drop 20) t167 _ ?side1 ?side2 A26.out).mono ?_
                                             (case side1 => repeat (first | exact (Kd.C_below HR166.out (by repeat (first | (with_reducible first | exact HB.out | apply below_alloc | apply pw_below_drewN | apply below_drew1 | refine below_set ?_ GE152.out) | exact HB.out))) | (with_reducible refine Kd.C_alloc ?_ _) | (with_reducible refine Kd.C_drewN ?_ _) | (with_reducible refine Kd.C_drew ?_)))
                                             (case side2 => exact HC166.out)
                                             rintro e w' ⟨rfl, ⟨nd, rfl⟩⟩
                                             refine ⟨_, rfl, ?_⟩
                                             refine hK.out _ _ ⟨((HB.out.cell (World.block_lt_of_cell? w _ hw159_0)).trans hw159_0), ((HB.out.cell (World.block_lt_of_cell? w _ hw160_0)).trans hw160_0), ((HB.out.cell (World.block_lt_of_cell? w _ hw161_0)).trans hw161_0)⟩ (fun hHeld => ?_)
                                             clear hK K
                                             refine norm_ (a' := ?_) ?_ ?_
                                             rotate_left
                                             · show Act.put _ (some 53) _ = _
                                               simp only [Act.put, List.setIfInBounds_toArray, List.set_cons_zero, List.set_cons_succ, i64_w, i32_w]
                                               rfl
                                             refine pure_ (i := 23) (N := some 54) (v := ?_) (a' := ?_) #[true, true, true, true, true, true, true, true, true, true, true, true, true, true, true, true, true, true, true, true, true, true, true, true, false, false] rfl rfl (any_of HT_.out (by kernel_rfl)) (fun _ _ _ h => h) (Or.inl ⟨by rfl, ?_⟩) ?_ ?_
                                             rotate_left
                                             · intro w'
                                               go_simp
                                               with_reducible rfl
                                             rotate_left
                                             · simp only [Act.put, List.setIfInBounds_toArray, List.set_cons_zero, List.set_cons_succ, i64_w, i32_w]
                                               rfl
                                             refine one_ (i := 24) (N := some 4) #[true, true, true, true, true, true, true, true, true, true, true, true, true, true, true, true, true, true, true, true, true, true, true, true, true, false] rfl rfl (one_of HT_.out (by kernel_rfl)) (by decide) (fun K hK => ?_)
                                             refine box_step ?hg (N := 4) ?hd (cs := #[.int .i64 0, .int .i64 0, .int .i64 0, .int .i64 0, .int .u64 0, .int .u32 0]) (t := 27) ?hr ?_; (case hd => rfl); (case hg => rfl); (case hr => first | (go_simp; done) | (go_simp; rfl))
                                             intro gb168 hg w62 hbox hb
                                             have n0_ := Aside0.mk (blk_below (g := gb152) (o := .cells #[.int .i64 0, .int .i64 0, .int .i64 0, .int .i64 0, .int .u64 0, .int .u32 0] 27 (0, 0)) (by (with_reducible repeat (first | refine blk_drewN ?_ _ | refine blk_drew ?_ | refine blk_alloc ?_ _)); exact BK152.out) hb)
                                             have n1_ := Aside0.mk (below_step (by repeat (first | (with_reducible first | exact HB.out | apply below_alloc | apply pw_below_drewN | apply below_drew1 | refine below_set ?_ GE152.out) | exact HB.out)) hb)
                                             have n2_ := Aside0.mk (hbox)
                                             have n3_ := Aside0.mk ((by rw [hg]; exact (below_size (by repeat (first | (with_reducible first | exact HB.out | apply below_alloc | apply pw_below_drewN | apply below_drew1 | refine below_set ?_ GE152.out) | exact HB.out))) : w.heap.size ≤ gb168))
                                             have n4_ := Aside0.mk ((by rw [hg]; exact (below_size (by repeat (first | (with_reducible first | exact HB.out | apply below_alloc | apply pw_below_drewN | apply below_drew1 | refine below_set ?_ GE152.out) | exact HB.out))) : w.heap.size ≤ gb168))
                                             have n5_ := Aside0.mk ((by rw [hg]; exact Nat.ne_of_lt (blk_lt (g := gb152) (o := .cells #[.int .i64 0, .int .i64 0, .int .i64 0, .int .i64 0, .int .u64 0, .int .u32 0] 27 (0, 0)) (by (with_reducible repeat (first | refine blk_drewN ?_ _ | refine blk_drew ?_ | refine blk_alloc ?_ _)); exact BK152.out)) : gb152 ≠ gb168))
                                             have n6_ := Aside0.mk ((by rw [hg]; exact Nat.ne_of_gt (blk_lt (g := gb152) (o := .cells #[.int .i64 0, .int .i64 0, .int .i64 0, .int .i64 0, .int .u64 0, .int .u32 0] 27 (0, 0)) (by (with_reducible repeat (first | refine blk_drewN ?_ _ | refine blk_drew ?_ | refine blk_alloc ?_ _)); exact BK152.out)) : gb168 ≠ gb152))
                                             clear BK152
                                             clear HB
                                             have BK152 := n0_
                                             have HB := n1_
                                             have BK168 := n2_
                                             have GW168 := n3_
                                             have GE168 := n4_
                                             have NB152_168 := n5_
                                             have NB168_152 := n6_
                                             clear n0_ n1_ n2_ n3_ n4_ n5_ n6_
                                             clear hb hbox hg
                                             refine hK.out _ _ ⟨((HB.out.cell (World.block_lt_of_cell? w _ hw159_0)).trans hw159_0), ((HB.out.cell (World.block_lt_of_cell? w _ hw160_0)).trans hw160_0), ((HB.out.cell (World.block_lt_of_cell? w _ hw161_0)).trans hw161_0)⟩ (fun hHeld => ?_)
                                             clear hK K
                                             refine norm_ (a' := ?_) ?_ ?_
                                             rotate_left
                                             · show Act.put _ (some 4) _ = _
                                               simp only [Act.put, List.setIfInBounds_toArray, List.set_cons_zero, List.set_cons_succ, i64_w, i32_w]
                                               rfl
                                             exact norm_ (by simp only [putAll, Act.put, List.setIfInBounds_toArray, List.set_cons_zero, List.set_cons_succ]) (hCont (gb168) _ ⟨hHeld, (by (with_reducible repeat (first | refine blk_drewN ?_ _ | refine blk_drew ?_ | refine blk_alloc ?_ _)); exact BK152.out), (by (with_reducible repeat (first | refine blk_drewN ?_ _ | refine blk_drew ?_ | refine blk_alloc ?_ _)); exact BK168.out), GW168.out, GE168.out, NB152_168.out, NB168_152.out, (by repeat (first | (with_reducible first | exact HB.out | apply below_alloc | apply pw_below_drewN | apply below_drew1 | refine below_set ?_ GE152.out | refine below_set ?_ GE168.out) | exact HB.out))⟩)
                                           · skip
                                             refine box_step ?hg (N := 4) ?hd (cs := #[.int .i64 0, .int .i64 0, .int .i64 0, .int .i64 0, .int .u64 0, .int .u32 0]) (t := 27) ?hr ?_; (case hd => rfl); (case hg => rfl); (case hr => first | (go_simp; done) | (go_simp; rfl))
                                             intro gb168 hg w62 hbox hb
                                             have n0_ := Aside0.mk (blk_below (g := gb152) (o := .cells #[.int .i64 0, .int .i64 0, .int .i64 0, .int .i64 0, .int .u64 0, .int .u32 0] 27 (0, 0)) (by (with_reducible repeat (first | refine blk_drewN ?_ _ | refine blk_drew ?_ | refine blk_alloc ?_ _)); exact BK152.out) hb)
                                             have n1_ := Aside0.mk (below_step (by repeat (first | (with_reducible first | exact HB.out | apply below_alloc | apply pw_below_drewN | apply below_drew1 | refine below_set ?_ GE152.out) | exact HB.out)) hb)
                                             have n2_ := Aside0.mk (hbox)
                                             have n3_ := Aside0.mk ((by rw [hg]; exact (below_size (by repeat (first | (with_reducible first | exact HB.out | apply below_alloc | apply pw_below_drewN | apply below_drew1 | refine below_set ?_ GE152.out) | exact HB.out))) : w.heap.size ≤ gb168))
                                             have n4_ := Aside0.mk ((by rw [hg]; exact (below_size (by repeat (first | (with_reducible first | exact HB.out | apply below_alloc | apply pw_below_drewN | apply below_drew1 | refine below_set ?_ GE152.out) | exact HB.out))) : w.heap.size ≤ gb168))
                                             have n5_ := Aside0.mk ((by rw [hg]; exact Nat.ne_of_lt (blk_lt (g := gb152) (o := .cells #[.int .i64 0, .int .i64 0, .int .i64 0, .int .i64 0, .int .u64 0, .int .u32 0] 27 (0, 0)) (by (with_reducible repeat (first | refine blk_drewN ?_ _ | refine blk_drew ?_ | refine blk_alloc ?_ _)); exact BK152.out)) : gb152 ≠ gb168))
                                             have n6_ := Aside0.mk ((by rw [hg]; exact Nat.ne_of_gt (blk_lt (g := gb152) (o := .cells #[.int .i64 0, .int .i64 0, .int .i64 0, .int .i64 0, .int .u64 0, .int .u32 0] 27 (0, 0)) (by (with_reducible repeat (first | refine blk_drewN ?_ _ | refine blk_drew ?_ | refine blk_alloc ?_ _)); exact BK152.out)) : gb168 ≠ gb152))
                                             clear BK152
                                             clear HB
                                             have BK152 := n0_
                                             have HB := n1_
                                             have BK168 := n2_
                                             have GW168 := n3_
                                             have GE168 := n4_
                                             have NB152_168 := n5_
                                             have NB168_152 := n6_
                                             clear n0_ n1_ n2_ n3_ n4_ n5_ n6_
                                             clear hb hbox hg
                                             refine hK.out _ _ ⟨((HB.out.cell (World.block_lt_of_cell? w _ hw159_0)).trans hw159_0), ((HB.out.cell (World.block_lt_of_cell? w _ hw160_0)).trans hw160_0), ((HB.out.cell (World.block_lt_of_cell? w _ hw161_0)).trans hw161_0)⟩ (fun hHeld => ?_)
                                             clear hK K
                                             refine norm_ (a' := ?_) ?_ ?_
                                             rotate_left
                                             · show Act.put _ (some 4) _ = _
                                               simp only [Act.put, List.setIfInBounds_toArray, List.set_cons_zero, List.set_cons_succ, i64_w, i32_w]
                                               rfl
                                             refine one_ (i := 22) (N := some 53) #[true, true, true, true, true, true, true, true, true, true, true, true, true, true, true, true, true, true, true, true, true, true, true, false, true, false] rfl rfl (one_of HT_.out (by kernel_rfl)) (by decide) (fun K hK => ?_)
                                             refine goes_ Tryd.func25 (by kernel_rfl) rfl #[.slice A61 ((l0.take 24).drop 20).length (c0 - 20)] (by rfl) rfl rfl (by (try simp only [List.map_toArray, List.map_cons, List.map_nil]); first | done | (rw [show ((l0.take 24).drop 20).length = (24 - 20) from (by rw [List.length_drop, List.length_take]; have h_ : (24 : Int) ≤ (l0.length : Int) := of_decide_eq_true (by first | (with_reducible assumption) | assumption); omega)] <;> rfl) | rfl | (simp only [List.length_drop, List.length_take]; rfl)) ?_
                                             with_reducible refine (head_take_uint32.calls k _ _ ((l0.take 24).drop 20) t167 _ ?side1 ?side2 A26.out).mono ?_
                                             (case side1 => repeat (first | exact (Kd.C_below HR166.out HB.out) | (with_reducible refine Kd.C_alloc ?_ _) | (with_reducible refine Kd.C_drewN ?_ _) | (with_reducible refine Kd.C_drew ?_)))
                                             (case side2 => exact HC166.out)
                                             rintro e w' ⟨rfl, ⟨nd, rfl⟩⟩
                                             refine ⟨_, rfl, ?_⟩
                                             refine hK.out _ _ ⟨((HB.out.cell (World.block_lt_of_cell? w _ hw159_0)).trans hw159_0), ((HB.out.cell (World.block_lt_of_cell? w _ hw160_0)).trans hw160_0), ((HB.out.cell (World.block_lt_of_cell? w _ hw161_0)).trans hw161_0)⟩ (fun hHeld => ?_)
                                             clear hK K
                                             refine norm_ (a' := ?_) ?_ ?_
                                             rotate_left
                                             · show Act.put _ (some 53) _ = _
                                               simp only [Act.put, List.setIfInBounds_toArray, List.set_cons_zero, List.set_cons_succ, i64_w, i32_w]
                                               rfl
                                             refine pure_ (i := 23) (N := some 54) (v := ?_) (a' := ?_) #[true, true, true, true, true, true, true, true, true, true, true, true, true, true, true, true, true, true, true, true, true, true, true, true, true, false] rfl rfl (any_of HT_.out (by kernel_rfl)) (fun _ _ _ h => h) (Or.inl ⟨by rfl, ?_⟩) ?_ ?_
                                             rotate_left
                                             · intro w'
                                               go_simp
                                               with_reducible rfl
                                             rotate_left
                                             · simp only [Act.put, List.setIfInBounds_toArray, List.set_cons_zero, List.set_cons_succ, i64_w, i32_w]
                                               rfl
                                             exact norm_ (by simp only [putAll, Act.put, List.setIfInBounds_toArray, List.set_cons_zero, List.set_cons_succ]) (hCont (gb168) _ ⟨hHeld, (by (with_reducible repeat (first | refine blk_drewN ?_ _ | refine blk_drew ?_ | refine blk_alloc ?_ _)); exact BK152.out), (by (with_reducible repeat (first | refine blk_drewN ?_ _ | refine blk_drew ?_ | refine blk_alloc ?_ _)); exact BK168.out), GW168.out, GE168.out, NB152_168.out, NB168_152.out, (by repeat (first | (with_reducible first | exact HB.out | apply below_alloc | apply pw_below_drewN | apply below_drew1 | refine below_set ?_ GE152.out | refine below_set ?_ GE168.out) | exact HB.out))⟩)
                                         · skip
                                           refine box_step ?hg (N := 4) ?hd (cs := #[.int .i64 0, .int .i64 0, .int .i64 0, .int .i64 0, .int .u64 0, .int .u32 0]) (t := 27) ?hr ?_; (case hd => rfl); (case hg => rfl); (case hr => first | (go_simp; done) | (go_simp; rfl))
                                           intro gb168 hg w62 hbox hb
                                           have n0_ := Aside0.mk (blk_below (g := gb152) (o := .cells #[.int .i64 0, .int .i64 0, .int .i64 0, .int .i64 0, .int .u64 0, .int .u32 0] 27 (0, 0)) (by (with_reducible repeat (first | refine blk_drewN ?_ _ | refine blk_drew ?_ | refine blk_alloc ?_ _)); exact BK152.out) hb)
                                           have n1_ := Aside0.mk (below_step (by repeat (first | (with_reducible first | exact HB.out | apply below_alloc | apply pw_below_drewN | apply below_drew1 | refine below_set ?_ GE152.out) | exact HB.out)) hb)
                                           have n2_ := Aside0.mk (hbox)
                                           have n3_ := Aside0.mk ((by rw [hg]; exact (below_size (by repeat (first | (with_reducible first | exact HB.out | apply below_alloc | apply pw_below_drewN | apply below_drew1 | refine below_set ?_ GE152.out) | exact HB.out))) : w.heap.size ≤ gb168))
                                           have n4_ := Aside0.mk ((by rw [hg]; exact (below_size (by repeat (first | (with_reducible first | exact HB.out | apply below_alloc | apply pw_below_drewN | apply below_drew1 | refine below_set ?_ GE152.out) | exact HB.out))) : w.heap.size ≤ gb168))
                                           have n5_ := Aside0.mk ((by rw [hg]; exact Nat.ne_of_lt (blk_lt (g := gb152) (o := .cells #[.int .i64 0, .int .i64 0, .int .i64 0, .int .i64 0, .int .u64 0, .int .u32 0] 27 (0, 0)) (by (with_reducible repeat (first | refine blk_drewN ?_ _ | refine blk_drew ?_ | refine blk_alloc ?_ _)); exact BK152.out)) : gb152 ≠ gb168))
                                           have n6_ := Aside0.mk ((by rw [hg]; exact Nat.ne_of_gt (blk_lt (g := gb152) (o := .cells #[.int .i64 0, .int .i64 0, .int .i64 0, .int .i64 0, .int .u64 0, .int .u32 0] 27 (0, 0)) (by (with_reducible repeat (first | refine blk_drewN ?_ _ | refine blk_drew ?_ | refine blk_alloc ?_ _)); exact BK152.out)) : gb168 ≠ gb152))
                                           clear BK152
                                           clear HB
                                           have BK152 := n0_
                                           have HB := n1_
                                           have BK168 := n2_
                                           have GW168 := n3_
                                           have GE168 := n4_
                                           have NB152_168 := n5_
                                           have NB168_152 := n6_
                                           clear n0_ n1_ n2_ n3_ n4_ n5_ n6_
                                           clear hb hbox hg
                                           refine hK.out _ _ ⟨((HB.out.cell (World.block_lt_of_cell? w _ hw159_0)).trans hw159_0), ((HB.out.cell (World.block_lt_of_cell? w _ hw160_0)).trans hw160_0), ((HB.out.cell (World.block_lt_of_cell? w _ hw161_0)).trans hw161_0)⟩ (fun hHeld => ?_)
                                           clear hK K
                                           refine norm_ (a' := ?_) ?_ ?_
                                           rotate_left
                                           · show Act.put _ (some 4) _ = _
                                             simp only [Act.put, List.setIfInBounds_toArray, List.set_cons_zero, List.set_cons_succ, i64_w, i32_w]
                                             rfl
                                           refine one_ (i := 19) (N := some 50) #[true, true, true, true, true, true, true, true, true, true, true, true, true, true, true, true, true, true, true, true, true, true, false, false, true, false] rfl rfl (one_of HT_.out (by kernel_rfl)) (by decide) (fun K hK => ?_)
                                           refine goes_ Tryd.func26 (by kernel_rfl) rfl #[.slice A60 ((l0.take 20).drop 12).length (c0 - 12)] (by rfl) rfl rfl (by (try simp only [List.map_toArray, List.map_cons, List.map_nil]); first | done | (rw [show ((l0.take 20).drop 12).length = (20 - 12) from (by rw [List.length_drop, List.length_take]; have h_ : (20 : Int) ≤ (l0.length : Int) := of_decide_eq_true (by first | (with_reducible assumption) | assumption); omega)] <;> rfl) | rfl | (simp only [List.length_drop, List.length_take]; rfl)) ?_
                                           with_reducible refine (head_take_uint64.calls k _ _ ((l0.take 20).drop 12) t165 _ ?side1 ?side2 A23.out).mono ?_
                                           (case side1 => repeat (first | exact (Kd.C_below HR164.out HB.out) | (with_reducible refine Kd.C_alloc ?_ _) | (with_reducible refine Kd.C_drewN ?_ _) | (with_reducible refine Kd.C_drew ?_)))
                                           (case side2 => exact HC164.out)
                                           rintro e w' ⟨rfl, ⟨nd, rfl⟩⟩
                                           refine ⟨_, rfl, ?_⟩
                                           refine hK.out _ _ ⟨((HB.out.cell (World.block_lt_of_cell? w _ hw159_0)).trans hw159_0), ((HB.out.cell (World.block_lt_of_cell? w _ hw160_0)).trans hw160_0), ((HB.out.cell (World.block_lt_of_cell? w _ hw161_0)).trans hw161_0)⟩ (fun hHeld => ?_)
                                           clear hK K
                                           refine norm_ (a' := ?_) ?_ ?_
                                           rotate_left
                                           · show Act.put _ (some 50) _ = _
                                             simp only [Act.put, List.setIfInBounds_toArray, List.set_cons_zero, List.set_cons_succ, i64_w, i32_w]
                                             rfl
                                           refine one_ (i := 22) (N := some 53) #[true, true, true, true, true, true, true, true, true, true, true, true, true, true, true, true, true, true, true, true, true, true, true, false, true, false] rfl rfl (one_of HT_.out (by kernel_rfl)) (by decide) (fun K hK => ?_)
                                           refine goes_ Tryd.func25 (by kernel_rfl) rfl #[.slice A61 ((l0.take 24).drop 20).length (c0 - 20)] (by rfl) rfl rfl (by (try simp only [List.map_toArray, List.map_cons, List.map_nil]); first | done | (rw [show ((l0.take 24).drop 20).length = (24 - 20) from (by rw [List.length_drop, List.length_take]; have h_ : (24 : Int) ≤ (l0.length : Int) := of_decide_eq_true (by first | (with_reducible assumption) | assumption); omega)] <;> rfl) | rfl | (simp only [List.length_drop, List.length_take]; rfl)) ?_
                                           with_reducible refine (head_take_uint32.calls k _ _ ((l0.take 24).drop 20) t167 _ ?side1 ?side2 A26.out).mono ?_
                                           (case side1 => repeat (first | exact (Kd.C_below HR166.out (by repeat (first | (with_reducible first | exact HB.out | apply below_alloc | apply pw_below_drewN | apply below_drew1 | refine below_set ?_ GE152.out | refine below_set ?_ GE168.out) | exact HB.out))) | (with_reducible refine Kd.C_alloc ?_ _) | (with_reducible refine Kd.C_drewN ?_ _) | (with_reducible refine Kd.C_drew ?_)))
                                           (case side2 => exact HC166.out)
                                           rintro e w' ⟨rfl, ⟨nd, rfl⟩⟩
                                           refine ⟨_, rfl, ?_⟩
                                           refine hK.out _ _ ⟨((HB.out.cell (World.block_lt_of_cell? w _ hw159_0)).trans hw159_0), ((HB.out.cell (World.block_lt_of_cell? w _ hw160_0)).trans hw160_0), ((HB.out.cell (World.block_lt_of_cell? w _ hw161_0)).trans hw161_0)⟩ (fun hHeld => ?_)
                                           clear hK K
                                           refine norm_ (a' := ?_) ?_ ?_
                                           rotate_left
                                           · show Act.put _ (some 53) _ = _
                                             simp only [Act.put, List.setIfInBounds_toArray, List.set_cons_zero, List.set_cons_succ, i64_w, i32_w]
                                             rfl
                                           refine pure_ (i := 23) (N := some 54) (v := ?_) (a' := ?_) #[true, true, true, true, true, true, true, true, true, true, true, true, true, true, true, true, true, true, true, true, true, true, true, true, true, false] rfl rfl (any_of HT_.out (by kernel_rfl)) (fun _ _ _ h => h) (Or.inl ⟨by rfl, ?_⟩) ?_ ?_
                                           rotate_left
                                           · intro w'
                                             go_simp
                                             with_reducible rfl
                                           rotate_left
                                           · simp only [Act.put, List.setIfInBounds_toArray, List.set_cons_zero, List.set_cons_succ, i64_w, i32_w]
                                             rfl
                                           exact norm_ (by simp only [putAll, Act.put, List.setIfInBounds_toArray, List.set_cons_zero, List.set_cons_succ]) (hCont (gb168) _ ⟨hHeld, (by (with_reducible repeat (first | refine blk_drewN ?_ _ | refine blk_drew ?_ | refine blk_alloc ?_ _)); exact BK152.out), (by (with_reducible repeat (first | refine blk_drewN ?_ _ | refine blk_drew ?_ | refine blk_alloc ?_ _)); exact BK168.out), GW168.out, GE168.out, NB152_168.out, NB168_152.out, (by repeat (first | (with_reducible first | exact HB.out | apply below_alloc | apply pw_below_drewN | apply below_drew1 | refine below_set ?_ GE152.out | refine below_set ?_ GE168.out) | exact HB.out))⟩)
                                       · skip
                                         refine box_step ?hg (N := 4) ?hd (cs := #[.int .i64 0, .int .i64 0, .int .i64 0, .int .i64 0, .int .u64 0, .int .u32 0]) (t := 27) ?hr ?_; (case hd => rfl); (case hg => rfl); (case hr => first | (go_simp; done) | (go_simp; rfl))
                                         intro gb168 hg w62 hbox hb
                                         have n0_ := Aside0.mk (blk_below (g := gb152) (o := .cells #[.int .i64 0, .int .i64 0, .int .i64 0, .int .i64 0, .int .u64 0, .int .u32 0] 27 (0, 0)) (by (with_reducible repeat (first | refine blk_drewN ?_ _ | refine blk_drew ?_ | refine blk_alloc ?_ _)); exact BK152.out) hb)
                                         have n1_ := Aside0.mk (below_step (by repeat (first | (with_reducible first | exact HB.out | apply below_alloc | apply pw_below_drewN | apply below_drew1 | refine below_set ?_ GE152.out) | exact HB.out)) hb)
                                         have n2_ := Aside0.mk (hbox)
                                         have n3_ := Aside0.mk ((by rw [hg]; exact (below_size (by repeat (first | (with_reducible first | exact HB.out | apply below_alloc | apply pw_below_drewN | apply below_drew1 | refine below_set ?_ GE152.out) | exact HB.out))) : w.heap.size ≤ gb168))
                                         have n4_ := Aside0.mk ((by rw [hg]; exact (below_size (by repeat (first | (with_reducible first | exact HB.out | apply below_alloc | apply pw_below_drewN | apply below_drew1 | refine below_set ?_ GE152.out) | exact HB.out))) : w.heap.size ≤ gb168))
                                         have n5_ := Aside0.mk ((by rw [hg]; exact Nat.ne_of_lt (blk_lt (g := gb152) (o := .cells #[.int .i64 0, .int .i64 0, .int .i64 0, .int .i64 0, .int .u64 0, .int .u32 0] 27 (0, 0)) (by (with_reducible repeat (first | refine blk_drewN ?_ _ | refine blk_drew ?_ | refine blk_alloc ?_ _)); exact BK152.out)) : gb152 ≠ gb168))
                                         have n6_ := Aside0.mk ((by rw [hg]; exact Nat.ne_of_gt (blk_lt (g := gb152) (o := .cells #[.int .i64 0, .int .i64 0, .int .i64 0, .int .i64 0, .int .u64 0, .int .u32 0] 27 (0, 0)) (by (with_reducible repeat (first | refine blk_drewN ?_ _ | refine blk_drew ?_ | refine blk_alloc ?_ _)); exact BK152.out)) : gb168 ≠ gb152))
                                         clear BK152
                                         clear HB
                                         have BK152 := n0_
                                         have HB := n1_
                                         have BK168 := n2_
                                         have GW168 := n3_
                                         have GE168 := n4_
                                         have NB152_168 := n5_
                                         have NB168_152 := n6_
                                         clear n0_ n1_ n2_ n3_ n4_ n5_ n6_
                                         clear hb hbox hg
                                         refine hK.out _ _ ⟨((HB.out.cell (World.block_lt_of_cell? w _ hw159_0)).trans hw159_0), ((HB.out.cell (World.block_lt_of_cell? w _ hw160_0)).trans hw160_0), ((HB.out.cell (World.block_lt_of_cell? w _ hw161_0)).trans hw161_0)⟩ (fun hHeld => ?_)
                                         clear hK K
                                         refine norm_ (a' := ?_) ?_ ?_
                                         rotate_left
                                         · show Act.put _ (some 4) _ = _
                                           simp only [Act.put, List.setIfInBounds_toArray, List.set_cons_zero, List.set_cons_succ, i64_w, i32_w]
                                           rfl
                                         refine one_ (i := 15) (N := some 46) #[true, true, true, true, true, true, true, true, true, true, true, true, true, true, true, true, false, true, true, false, true, true, false, false, true, false] rfl rfl (one_of HT_.out (by kernel_rfl)) (by decide) (fun K hK => ?_)
                                         refine goes_ Tryd.func25 (by kernel_rfl) rfl #[.slice A59 ((l0.take 12).drop 8).length (c0 - 8)] (by rfl) rfl rfl (by (try simp only [List.map_toArray, List.map_cons, List.map_nil]); first | done | (rw [show ((l0.take 12).drop 8).length = (12 - 8) from (by rw [List.length_drop, List.length_take]; have h_ : (12 : Int) ≤ (l0.length : Int) := of_decide_eq_true (by first | (with_reducible assumption) | assumption); omega)] <;> rfl) | rfl | (simp only [List.length_drop, List.length_take]; rfl)) ?_
                                         with_reducible refine (head_take_uint32.calls k _ _ ((l0.take 12).drop 8) t163 _ ?side1 ?side2 A20.out).mono ?_
                                         (case side1 => repeat (first | exact (Kd.C_below HR162.out HB.out) | (with_reducible refine Kd.C_alloc ?_ _) | (with_reducible refine Kd.C_drewN ?_ _) | (with_reducible refine Kd.C_drew ?_)))
                                         (case side2 => exact HC162.out)
                                         rintro e w' ⟨rfl, ⟨nd, rfl⟩⟩
                                         refine ⟨_, rfl, ?_⟩
                                         refine hK.out _ _ ⟨((HB.out.cell (World.block_lt_of_cell? w _ hw159_0)).trans hw159_0), ((HB.out.cell (World.block_lt_of_cell? w _ hw160_0)).trans hw160_0), ((HB.out.cell (World.block_lt_of_cell? w _ hw161_0)).trans hw161_0)⟩ (fun hHeld => ?_)
                                         clear hK K
                                         refine norm_ (a' := ?_) ?_ ?_
                                         rotate_left
                                         · show Act.put _ (some 46) _ = _
                                           simp only [Act.put, List.setIfInBounds_toArray, List.set_cons_zero, List.set_cons_succ, i64_w, i32_w]
                                           rfl
                                         refine pure_ (i := 16) (N := some 47) (v := ?_) (a' := ?_) #[true, true, true, true, true, true, true, true, true, true, true, true, true, true, true, true, true, true, true, false, true, true, false, false, true, false] rfl rfl (any_of HT_.out (by kernel_rfl)) (fun _ _ _ h => h) (Or.inl ⟨by rfl, ?_⟩) ?_ ?_
                                         rotate_left
                                         · intro w'
                                           go_simp
                                           with_reducible rfl
                                         rotate_left
                                         · simp only [Act.put, List.setIfInBounds_toArray, List.set_cons_zero, List.set_cons_succ, i64_w, i32_w]
                                           rfl
                                         refine one_ (i := 19) (N := some 50) #[true, true, true, true, true, true, true, true, true, true, true, true, true, true, true, true, true, true, true, true, true, true, false, false, true, false] rfl rfl (one_of HT_.out (by kernel_rfl)) (by decide) (fun K hK => ?_)
                                         refine goes_ Tryd.func26 (by kernel_rfl) rfl #[.slice A60 ((l0.take 20).drop 12).length (c0 - 12)] (by rfl) rfl rfl (by (try simp only [List.map_toArray, List.map_cons, List.map_nil]); first | done | (rw [show ((l0.take 20).drop 12).length = (20 - 12) from (by rw [List.length_drop, List.length_take]; have h_ : (20 : Int) ≤ (l0.length : Int) := of_decide_eq_true (by first | (with_reducible assumption) | assumption); omega)] <;> rfl) | rfl | (simp only [List.length_drop, List.length_take]; rfl)) ?_
                                         with_reducible refine (head_take_uint64.calls k _ _ ((l0.take 20).drop 12) t165 _ ?side1 ?side2 A23.out).mono ?_
                                         (case side1 => repeat (first | exact (Kd.C_below HR164.out (by repeat (first | (with_reducible first | exact HB.out | apply below_alloc | apply pw_below_drewN | apply below_drew1 | refine below_set ?_ GE152.out | refine below_set ?_ GE168.out) | exact HB.out))) | (with_reducible refine Kd.C_alloc ?_ _) | (with_reducible refine Kd.C_drewN ?_ _) | (with_reducible refine Kd.C_drew ?_)))
                                         (case side2 => exact HC164.out)
                                         rintro e w' ⟨rfl, ⟨nd, rfl⟩⟩
                                         refine ⟨_, rfl, ?_⟩
                                         refine hK.out _ _ ⟨((HB.out.cell (World.block_lt_of_cell? w _ hw159_0)).trans hw159_0), ((HB.out.cell (World.block_lt_of_cell? w _ hw160_0)).trans hw160_0), ((HB.out.cell (World.block_lt_of_cell? w _ hw161_0)).trans hw161_0)⟩ (fun hHeld => ?_)
                                         clear hK K
                                         refine norm_ (a' := ?_) ?_ ?_
                                         rotate_left
                                         · show Act.put _ (some 50) _ = _
                                           simp only [Act.put, List.setIfInBounds_toArray, List.set_cons_zero, List.set_cons_succ, i64_w, i32_w]
                                           rfl
                                         refine one_ (i := 22) (N := some 53) #[true, true, true, true, true, true, true, true, true, true, true, true, true, true, true, true, true, true, true, true, true, true, true, false, true, false] rfl rfl (one_of HT_.out (by kernel_rfl)) (by decide) (fun K hK => ?_)
                                         refine goes_ Tryd.func25 (by kernel_rfl) rfl #[.slice A61 ((l0.take 24).drop 20).length (c0 - 20)] (by rfl) rfl rfl (by (try simp only [List.map_toArray, List.map_cons, List.map_nil]); first | done | (rw [show ((l0.take 24).drop 20).length = (24 - 20) from (by rw [List.length_drop, List.length_take]; have h_ : (24 : Int) ≤ (l0.length : Int) := of_decide_eq_true (by first | (with_reducible assumption) | assumption); omega)] <;> rfl) | rfl | (simp only [List.length_drop, List.length_take]; rfl)) ?_
                                         with_reducible refine (head_take_uint32.calls k _ _ ((l0.take 24).drop 20) t167 _ ?side1 ?side2 A26.out).mono ?_
                                         (case side1 => repeat (first | exact (Kd.C_below HR166.out (by repeat (first | (with_reducible first | exact HB.out | apply below_alloc | apply pw_below_drewN | apply below_drew1 | refine below_set ?_ GE152.out | refine below_set ?_ GE168.out) | exact HB.out))) | (with_reducible refine Kd.C_alloc ?_ _) | (with_reducible refine Kd.C_drewN ?_ _) | (with_reducible refine Kd.C_drew ?_)))
                                         (case side2 => exact HC166.out)
                                         rintro e w' ⟨rfl, ⟨nd, rfl⟩⟩
                                         refine ⟨_, rfl, ?_⟩
                                         refine hK.out _ _ ⟨((HB.out.cell (World.block_lt_of_cell? w _ hw159_0)).trans hw159_0), ((HB.out.cell (World.block_lt_of_cell? w _ hw160_0)).trans hw160_0), ((HB.out.cell (World.block_lt_of_cell? w _ hw161_0)).trans hw161_0)⟩ (fun hHeld => ?_)
                                         clear hK K
                                         refine norm_ (a' := ?_) ?_ ?_
                                         rotate_left
                                         · show Act.put _ (some 53) _ = _
                                           simp only [Act.put, List.setIfInBounds_toArray, List.set_cons_zero, List.set_cons_succ, i64_w, i32_w]
                                           rfl
                                         refine pure_ (i := 23) (N := some 54) (v := ?_) (a' := ?_) #[true, true, true, true, true, true, true, true, true, true, true, true, true, true, true, true, true, true, true, true, true, true, true, true, true, false] rfl rfl (any_of HT_.out (by kernel_rfl)) (fun _ _ _ h => h) (Or.inl ⟨by rfl, ?_⟩) ?_ ?_
                                         rotate_left
                                         · intro w'
                                           go_simp
                                           with_reducible rfl
                                         rotate_left
                                         · simp only [Act.put, List.setIfInBounds_toArray, List.set_cons_zero, List.set_cons_succ, i64_w, i32_w]
                                           rfl
                                         exact norm_ (by simp only [putAll, Act.put, List.setIfInBounds_toArray, List.set_cons_zero, List.set_cons_succ]) (hCont (gb168) _ ⟨hHeld, (by (with_reducible repeat (first | refine blk_drewN ?_ _ | refine blk_drew ?_ | refine blk_alloc ?_ _)); exact BK152.out), (by (with_reducible repeat (first | refine blk_drewN ?_ _ | refine blk_drew ?_ | refine blk_alloc ?_ _)); exact BK168.out), GW168.out, GE168.out, NB152_168.out, NB168_152.out, (by repeat (first | (with_reducible first | exact HB.out | apply below_alloc | apply pw_below_drewN | apply below_drew1 | refine below_set ?_ GE152.out | refine below_set ?_ GE168.out) | exact HB.out))⟩)
                                     rintro gb168 w63 ⟨hS_, h0_, h1_, h2_, h3_, h4_, h5_, h6_⟩
                                     have n0_ : Aside0 (w63.heap[gb152]? = some (.cells #[.int .i64 0, .int .i64 0, .int .i64 0, .int .i64 0, .int .u64 0, .int .u32 0] 27 (0, 0))) := ⟨h0_⟩
                                     have n1_ : Aside0 (w63.heap[gb168]? = some (.cells #[.int .i64 0, .int .i64 0, .int .i64 0, .int .i64 0, .int .u64 0, .int .u32 0] 27 (0, 0))) := ⟨h1_⟩
                                     have n2_ : Aside0 (w.heap.size ≤ gb168) := ⟨h2_⟩
                                     have n3_ : Aside0 (w.heap.size ≤ gb168) := ⟨h3_⟩
                                     have n4_ : Aside0 (gb152 ≠ gb168) := ⟨h4_⟩
                                     have n5_ : Aside0 (gb168 ≠ gb152) := ⟨h5_⟩
                                     have n6_ : Aside0 (Below w.heap.size w w63) := ⟨h6_⟩
                                     clear BK152
                                     clear HB
                                     clear h0_ h1_ h2_ h3_ h4_ h5_ h6_
                                     have BK152 := n0_
                                     have BK168 := n1_
                                     have GW168 := n2_
                                     have GE168 := n3_
                                     have NB152_168 := n4_
                                     have NB168_152 := n5_
                                     have HB := n6_
                                     clear n0_ n1_ n2_ n3_ n4_ n5_ n6_
                                     have hHeld : w63.cell? ⟨ad154.block, ad154.off + 5, none⟩ = some (.int .u8 (rd l0 5)) ∧ w63.cell? ⟨ad154.block, ad154.off + 6, none⟩ = some (.int .u8 (rd l0 6)) ∧ w63.cell? ⟨ad154.block, ad154.off + 7, none⟩ = some (.int .u8 (rd l0 7)) := hS_
                                     refine norm_ (a' := ?_) ?_ ?_
                                     rotate_left
                                     · simp only [putAll, Act.put, List.setIfInBounds_toArray, List.set_cons_zero, List.set_cons_succ]
                                       rfl
                                     refine one_ (i := 25) (N := none) #[true, true, true, true, true, true, true, true, true, true, true, true, true, true, true, true, true, true, true, true, true, true, true, true, true, true] rfl rfl (one_of HT_.out (by kernel_rfl)) (by decide) (fun K hK => ?_)
                                     have hs64 : w63.cell? ⟨gb168, 0, none⟩ = some (.int .i64 0) := (blk_cell BK168.out 0).trans rfl
                                     have hfs64 := blk_frozen BK168.out 0
                                     have hns64_0 := NB152_168.out
                                     have hms64_0 := NB168_152.out
                                     have hs65 : w63.cell? ⟨gb168, 1, none⟩ = some (.int .i64 0) := (blk_cell BK168.out 1).trans rfl
                                     have hfs65 := blk_frozen BK168.out 1
                                     have hns65_0 := NB152_168.out
                                     have hms65_0 := NB168_152.out
                                     have hs66 : w63.cell? ⟨gb168, 2, none⟩ = some (.int .i64 0) := (blk_cell BK168.out 2).trans rfl
                                     have hfs66 := blk_frozen BK168.out 2
                                     have hns66_0 := NB152_168.out
                                     have hms66_0 := NB168_152.out
                                     have hs67 : w63.cell? ⟨gb168, 3, none⟩ = some (.int .i64 0) := (blk_cell BK168.out 3).trans rfl
                                     have hfs67 := blk_frozen BK168.out 3
                                     have hns67_0 := NB152_168.out
                                     have hms67_0 := NB168_152.out
                                     have hs68 : w63.cell? ⟨gb168, 4, none⟩ = some (.int .u64 0) := (blk_cell BK168.out 4).trans rfl
                                     have hfs68 := blk_frozen BK168.out 4
                                     have hns68_0 := NB152_168.out
                                     have hms68_0 := NB168_152.out
                                     have hs69 : w63.cell? ⟨gb168, 5, none⟩ = some (.int .u32 0) := (blk_cell BK168.out 5).trans rfl
                                     have hfs69 := blk_frozen BK168.out 5
                                     have hns69_0 := NB152_168.out
                                     have hms69_0 := NB168_152.out
                                     refine skip_ (w1 := ?_) (by rfl) rfl ?_ ?_
                                     rotate_left
                                     · go_simp
                                       rfl
                                     refine hK.out _ _ ⟨((cell_far (p := ⟨gb168, _, none⟩) (by first | exact Nat.ne_of_lt (Nat.lt_of_lt_of_le (by have := World.block_lt_of_cell? _ _ hw159_0; first | rwa [add_block] at this | exact this) GW168.out) | (rw [add_block]; exact Nat.ne_of_lt (Nat.lt_of_lt_of_le (by have := World.block_lt_of_cell? _ _ hw159_0; first | rwa [add_block] at this | exact this) GW168.out)) | (show (Addr.add _ _).block ≠ _; rw [add_block]; exact Nat.ne_of_lt (Nat.lt_of_lt_of_le (by have := World.block_lt_of_cell? _ _ hw159_0; first | rwa [add_block] at this | exact this) GW168.out)) | (dsimp only; exact Nat.ne_of_lt (Nat.lt_of_lt_of_le (by have := World.block_lt_of_cell? _ _ hw159_0; first | rwa [add_block] at this | exact this) GW168.out))) _).trans (((cell_far (p := ⟨gb168, _, none⟩) (by first | exact Nat.ne_of_lt (Nat.lt_of_lt_of_le (by have := World.block_lt_of_cell? _ _ hw159_0; first | rwa [add_block] at this | exact this) GW168.out) | (rw [add_block]; exact Nat.ne_of_lt (Nat.lt_of_lt_of_le (by have := World.block_lt_of_cell? _ _ hw159_0; first | rwa [add_block] at this | exact this) GW168.out)) | (show (Addr.add _ _).block ≠ _; rw [add_block]; exact Nat.ne_of_lt (Nat.lt_of_lt_of_le (by have := World.block_lt_of_cell? _ _ hw159_0; first | rwa [add_block] at this | exact this) GW168.out)) | (dsimp only; exact Nat.ne_of_lt (Nat.lt_of_lt_of_le (by have := World.block_lt_of_cell? _ _ hw159_0; first | rwa [add_block] at this | exact this) GW168.out))) _).trans (((cell_far (p := ⟨gb168, _, none⟩) (by first | exact Nat.ne_of_lt (Nat.lt_of_lt_of_le (by have := World.block_lt_of_cell? _ _ hw159_0; first | rwa [add_block] at this | exact this) GW168.out) | (rw [add_block]; exact Nat.ne_of_lt (Nat.lt_of_lt_of_le (by have := World.block_lt_of_cell? _ _ hw159_0; first | rwa [add_block] at this | exact this) GW168.out)) | (show (Addr.add _ _).block ≠ _; rw [add_block]; exact Nat.ne_of_lt (Nat.lt_of_lt_of_le (by have := World.block_lt_of_cell? _ _ hw159_0; first | rwa [add_block] at this | exact this) GW168.out)) | (dsimp only; exact Nat.ne_of_lt (Nat.lt_of_lt_of_le (by have := World.block_lt_of_cell? _ _ hw159_0; first | rwa [add_block] at this | exact this) GW168.out))) _).trans (((cell_far (p := ⟨gb168, _, none⟩) (by first | exact Nat.ne_of_lt (Nat.lt_of_lt_of_le (by have := World.block_lt_of_cell? _ _ hw159_0; first | rwa [add_block] at this | exact this) GW168.out) | (rw [add_block]; exact Nat.ne_of_lt (Nat.lt_of_lt_of_le (by have := World.block_lt_of_cell? _ _ hw159_0; first | rwa [add_block] at this | exact this) GW168.out)) | (show (Addr.add _ _).block ≠ _; rw [add_block]; exact Nat.ne_of_lt (Nat.lt_of_lt_of_le (by have := World.block_lt_of_cell? _ _ hw159_0; first | rwa [add_block] at this | exact this) GW168.out)) | (dsimp only; exact Nat.ne_of_lt (Nat.lt_of_lt_of_le (by have := World.block_lt_of_cell? _ _ hw159_0; first | rwa [add_block] at this | exact this) GW168.out))) _).trans (((cell_far (p := ⟨gb168, _, none⟩) (by first | exact Nat.ne_of_lt (Nat.lt_of_lt_of_le (by have := World.block_lt_of_cell? _ _ hw159_0; first | rwa [add_block] at this | exact this) GW168.out) | (rw [add_block]; exact Nat.ne_of_lt (Nat.lt_of_lt_of_le (by have := World.block_lt_of_cell? _ _ hw159_0; first | rwa [add_block] at this | exact this) GW168.out)) | (show (Addr.add _ _).block ≠ _; rw [add_block]; exact Nat.ne_of_lt (Nat.lt_of_lt_of_le (by have := World.block_lt_of_cell? _ _ hw159_0; first | rwa [add_block] at this | exact this) GW168.out)) | (dsimp only; exact Nat.ne_of_lt (Nat.lt_of_lt_of_le (by have := World.block_lt_of_cell? _ _ hw159_0; first | rwa [add_block] at this | exact this) GW168.out))) _).trans (((cell_far (p := ⟨gb168, _, none⟩) (by first | exact Nat.ne_of_lt (Nat.lt_of_lt_of_le (by have := World.block_lt_of_cell? _ _ hw159_0; first | rwa [add_block] at this | exact this) GW168.out) | (rw [add_block]; exact Nat.ne_of_lt (Nat.lt_of_lt_of_le (by have := World.block_lt_of_cell? _ _ hw159_0; first | rwa [add_block] at this | exact this) GW168.out)) | (show (Addr.add _ _).block ≠ _; rw [add_block]; exact Nat.ne_of_lt (Nat.lt_of_lt_of_le (by have := World.block_lt_of_cell? _ _ hw159_0; first | rwa [add_block] at this | exact this) GW168.out)) | (dsimp only; exact Nat.ne_of_lt (Nat.lt_of_lt_of_le (by have := World.block_lt_of_cell? _ _ hw159_0; first | rwa [add_block] at this | exact this) GW168.out))) _).trans (hHeld.1)))))))))))), ((cell_far (p := ⟨gb168, _, none⟩) (by first | exact Nat.ne_of_lt (Nat.lt_of_lt_of_le (by have := World.block_lt_of_cell? _ _ hw160_0; first | rwa [add_block] at this | exact this) GW168.out) | (rw [add_block]; exact Nat.ne_of_lt (Nat.lt_of_lt_of_le (by have := World.block_lt_of_cell? _ _ hw160_0; first | rwa [add_block] at this | exact this) GW168.out)) | (show (Addr.add _ _).block ≠ _; rw [add_block]; exact Nat.ne_of_lt (Nat.lt_of_lt_of_le (by have := World.block_lt_of_cell? _ _ hw160_0; first | rwa [add_block] at this | exact this) GW168.out)) | (dsimp only; exact Nat.ne_of_lt (Nat.lt_of_lt_of_le (by have := World.block_lt_of_cell? _ _ hw160_0; first | rwa [add_block] at this | exact this) GW168.out))) _).trans (((cell_far (p := ⟨gb168, _, none⟩) (by first | exact Nat.ne_of_lt (Nat.lt_of_lt_of_le (by have := World.block_lt_of_cell? _ _ hw160_0; first | rwa [add_block] at this | exact this) GW168.out) | (rw [add_block]; exact Nat.ne_of_lt (Nat.lt_of_lt_of_le (by have := World.block_lt_of_cell? _ _ hw160_0; first | rwa [add_block] at this | exact this) GW168.out)) | (show (Addr.add _ _).block ≠ _; rw [add_block]; exact Nat.ne_of_lt (Nat.lt_of_lt_of_le (by have := World.block_lt_of_cell? _ _ hw160_0; first | rwa [add_block] at this | exact this) GW168.out)) | (dsimp only; exact Nat.ne_of_lt (Nat.lt_of_lt_of_le (by have := World.block_lt_of_cell? _ _ hw160_0; first | rwa [add_block] at this | exact this) GW168.out))) _).trans (((cell_far (p := ⟨gb168, _, none⟩) (by first | exact Nat.ne_of_lt (Nat.lt_of_lt_of_le (by have := World.block_lt_of_cell? _ _ hw160_0; first | rwa [add_block] at this | exact this) GW168.out) | (rw [add_block]; exact Nat.ne_of_lt (Nat.lt_of_lt_of_le (by have := World.block_lt_of_cell? _ _ hw160_0; first | rwa [add_block] at this | exact this) GW168.out)) | (show (Addr.add _ _).block ≠ _; rw [add_block]; exact Nat.ne_of_lt (Nat.lt_of_lt_of_le (by have := World.block_lt_of_cell? _ _ hw160_0; first | rwa [add_block] at this | exact this) GW168.out)) | (dsimp only; exact Nat.ne_of_lt (Nat.lt_of_lt_of_le (by have := World.block_lt_of_cell? _ _ hw160_0; first | rwa [add_block] at this | exact this) GW168.out))) _).trans (((cell_far (p := ⟨gb168, _, none⟩) (by first | exact Nat.ne_of_lt (Nat.lt_of_lt_of_le (by have := World.block_lt_of_cell? _ _ hw160_0; first | rwa [add_block] at this | exact this) GW168.out) | (rw [add_block]; exact Nat.ne_of_lt (Nat.lt_of_lt_of_le (by have := World.block_lt_of_cell? _ _ hw160_0; first | rwa [add_block] at this | exact this) GW168.out)) | (show (Addr.add _ _).block ≠ _; rw [add_block]; exact Nat.ne_of_lt (Nat.lt_of_lt_of_le (by have := World.block_lt_of_cell? _ _ hw160_0; first | rwa [add_block] at this | exact this) GW168.out)) | (dsimp only; exact Nat.ne_of_lt (Nat.lt_of_lt_of_le (by have := World.block_lt_of_cell? _ _ hw160_0; first | rwa [add_block] at this | exact this) GW168.out))) _).trans (((cell_far (p := ⟨gb168, _, none⟩) (by first | exact Nat.ne_of_lt (Nat.lt_of_lt_of_le (by have := World.block_lt_of_cell? _ _ hw160_0; first | rwa [add_block] at this | exact this) GW168.out) | (rw [add_block]; exact Nat.ne_of_lt (Nat.lt_of_lt_of_le (by have := World.block_lt_of_cell? _ _ hw160_0; first | rwa [add_block] at this | exact this) GW168.out)) | (show (Addr.add _ _).block ≠ _; rw [add_block]; exact Nat.ne_of_lt (Nat.lt_of_lt_of_le (by have := World.block_lt_of_cell? _ _ hw160_0; first | rwa [add_block] at this | exact this) GW168.out)) | (dsimp only; exact Nat.ne_of_lt (Nat.lt_of_lt_of_le (by have := World.block_lt_of_cell? _ _ hw160_0; first | rwa [add_block] at this | exact this) GW168.out))) _).trans (((cell_far (p := ⟨gb168, _, none⟩) (by first | exact Nat.ne_of_lt (Nat.lt_of_lt_of_le (by have := World.block_lt_of_cell? _ _ hw160_0; first | rwa [add_block] at this | exact this) GW168.out) | (rw [add_block]; exact Nat.ne_of_lt (Nat.lt_of_lt_of_le (by have := World.block_lt_of_cell? _ _ hw160_0; first | rwa [add_block] at this | exact this) GW168.out)) | (show (Addr.add _ _).block ≠ _; rw [add_block]; exact Nat.ne_of_lt (Nat.lt_of_lt_of_le (by have := World.block_lt_of_cell? _ _ hw160_0; first | rwa [add_block] at this | exact this) GW168.out)) | (dsimp only; exact Nat.ne_of_lt (Nat.lt_of_lt_of_le (by have := World.block_lt_of_cell? _ _ hw160_0; first | rwa [add_block] at this | exact this) GW168.out))) _).trans (hHeld.2.1)))))))))))), ((cell_far (p := ⟨gb168, _, none⟩) (by first | exact Nat.ne_of_lt (Nat.lt_of_lt_of_le (by have := World.block_lt_of_cell? _ _ hw161_0; first | rwa [add_block] at this | exact this) GW168.out) | (rw [add_block]; exact Nat.ne_of_lt (Nat.lt_of_lt_of_le (by have := World.block_lt_of_cell? _ _ hw161_0; first | rwa [add_block] at this | exact this) GW168.out)) | (show (Addr.add _ _).block ≠ _; rw [add_block]; exact Nat.ne_of_lt (Nat.lt_of_lt_of_le (by have := World.block_lt_of_cell? _ _ hw161_0; first | rwa [add_block] at this | exact this) GW168.out)) | (dsimp only; exact Nat.ne_of_lt (Nat.lt_of_lt_of_le (by have := World.block_lt_of_cell? _ _ hw161_0; first | rwa [add_block] at this | exact this) GW168.out))) _).trans (((cell_far (p := ⟨gb168, _, none⟩) (by first | exact Nat.ne_of_lt (Nat.lt_of_lt_of_le (by have := World.block_lt_of_cell? _ _ hw161_0; first | rwa [add_block] at this | exact this) GW168.out) | (rw [add_block]; exact Nat.ne_of_lt (Nat.lt_of_lt_of_le (by have := World.block_lt_of_cell? _ _ hw161_0; first | rwa [add_block] at this | exact this) GW168.out)) | (show (Addr.add _ _).block ≠ _; rw [add_block]; exact Nat.ne_of_lt (Nat.lt_of_lt_of_le (by have := World.block_lt_of_cell? _ _ hw161_0; first | rwa [add_block] at this | exact this) GW168.out)) | (dsimp only; exact Nat.ne_of_lt (Nat.lt_of_lt_of_le (by have := World.block_lt_of_cell? _ _ hw161_0; first | rwa [add_block] at this | exact this) GW168.out))) _).trans (((cell_far (p := ⟨gb168, _, none⟩) (by first | exact Nat.ne_of_lt (Nat.lt_of_lt_of_le (by have := World.block_lt_of_cell? _ _ hw161_0; first | rwa [add_block] at this | exact this) GW168.out) | (rw [add_block]; exact Nat.ne_of_lt (Nat.lt_of_lt_of_le (by have := World.block_lt_of_cell? _ _ hw161_0; first | rwa [add_block] at this | exact this) GW168.out)) | (show (Addr.add _ _).block ≠ _; rw [add_block]; exact Nat.ne_of_lt (Nat.lt_of_lt_of_le (by have := World.block_lt_of_cell? _ _ hw161_0; first | rwa [add_block] at this | exact this) GW168.out)) | (dsimp only; exact Nat.ne_of_lt (Nat.lt_of_lt_of_le (by have := World.block_lt_of_cell? _ _ hw161_0; first | rwa [add_block] at this | exact this) GW168.out))) _).trans (((cell_far (p := ⟨gb168, _, none⟩) (by first | exact Nat.ne_of_lt (Nat.lt_of_lt_of_le (by have := World.block_lt_of_cell? _ _ hw161_0; first | rwa [add_block] at this | exact this) GW168.out) | (rw [add_block]; exact Nat.ne_of_lt (Nat.lt_of_lt_of_le (by have := World.block_lt_of_cell? _ _ hw161_0; first | rwa [add_block] at this | exact this) GW168.out)) | (show (Addr.add _ _).block ≠ _; rw [add_block]; exact Nat.ne_of_lt (Nat.lt_of_lt_of_le (by have := World.block_lt_of_cell? _ _ hw161_0; first | rwa [add_block] at this | exact this) GW168.out)) | (dsimp only; exact Nat.ne_of_lt (Nat.lt_of_lt_of_le (by have := World.block_lt_of_cell? _ _ hw161_0; first | rwa [add_block] at this | exact this) GW168.out))) _).trans (((cell_far (p := ⟨gb168, _, none⟩) (by first | exact Nat.ne_of_lt (Nat.lt_of_lt_of_le (by have := World.block_lt_of_cell? _ _ hw161_0; first | rwa [add_block] at this | exact this) GW168.out) | (rw [add_block]; exact Nat.ne_of_lt (Nat.lt_of_lt_of_le (by have := World.block_lt_of_cell? _ _ hw161_0; first | rwa [add_block] at this | exact this) GW168.out)) | (show (Addr.add _ _).block ≠ _; rw [add_block]; exact Nat.ne_of_lt (Nat.lt_of_lt_of_le (by have := World.block_lt_of_cell? _ _ hw161_0; first | rwa [add_block] at this | exact this) GW168.out)) | (dsimp only; exact Nat.ne_of_lt (Nat.lt_of_lt_of_le (by have := World.block_lt_of_cell? _ _ hw161_0; first | rwa [add_block] at this | exact this) GW168.out))) _).trans (((cell_far (p := ⟨gb168, _, none⟩) (by first | exact Nat.ne_of_lt (Nat.lt_of_lt_of_le (by have := World.block_lt_of_cell? _ _ hw161_0; first | rwa [add_block] at this | exact this) GW168.out) | (rw [add_block]; exact Nat.ne_of_lt (Nat.lt_of_lt_of_le (by have := World.block_lt_of_cell? _ _ hw161_0; first | rwa [add_block] at this | exact this) GW168.out)) | (show (Addr.add _ _).block ≠ _; rw [add_block]; exact Nat.ne_of_lt (Nat.lt_of_lt_of_le (by have := World.block_lt_of_cell? _ _ hw161_0; first | rwa [add_block] at this | exact this) GW168.out)) | (dsimp only; exact Nat.ne_of_lt (Nat.lt_of_lt_of_le (by have := World.block_lt_of_cell? _ _ hw161_0; first | rwa [add_block] at this | exact this) GW168.out))) _).trans (hHeld.2.2))))))))))))⟩ (fun hHeld => ?_)
                                     clear hK K
                                     refine done_ (done_of HT_.out (by kernel_rfl)) ?_
                                     have hnb70 := NB168_152.out
                                     have hnc70 := NB152_168.out
                                     have hcz71_0 : w63.cell? ⟨gb168, 0, none⟩ = some (.int .i64 0) := (blk_cell BK168.out 0).trans rfl
                                     have hcz71_1 : w63.cell? ⟨gb168, 1, none⟩ = some (.int .i64 0) := (blk_cell BK168.out 1).trans rfl
                                     have hcz71_2 : w63.cell? ⟨gb168, 2, none⟩ = some (.int .i64 0) := (blk_cell BK168.out 2).trans rfl
                                     have hcz71_3 : w63.cell? ⟨gb168, 3, none⟩ = some (.int .i64 0) := (blk_cell BK168.out 3).trans rfl
                                     have hcz71_4 : w63.cell? ⟨gb168, 4, none⟩ = some (.int .u64 0) := (blk_cell BK168.out 4).trans rfl
                                     have hcz71_5 : w63.cell? ⟨gb168, 5, none⟩ = some (.int .u32 0) := (blk_cell BK168.out 5).trans rfl
                                     have hfz71_0 := blk_frozen BK168.out 0
                                     have hfz71_1 := blk_frozen BK168.out 1
                                     have hfz71_2 := blk_frozen BK168.out 2
                                     have hfz71_3 := blk_frozen BK168.out 3
                                     have hfz71_4 := blk_frozen BK168.out 4
                                     have hfz71_5 := blk_frozen BK168.out 5
                                     try go_wp2_with (first | ((with_reducible refine gate_callee (f := 20) rfl ?_); refine goesL_ (some 56) rfl rfl Tryd.func20 (by kernel_rfl) rfl #[.agg #[.int .i64 (wrap64 (rd l0 5)), .int .i64 (wrap64 (rd l0 6)), .int .i64 (wrap64 (rd l0 7)), .int .i64 (wrap64 (t163)), .int .u64 t165, .int .u32 t167]] rfl (by (try simp only [List.map_toArray, List.map_cons, List.map_nil]); first | done | rfl | (simp only [List.length_drop, List.length_take]; rfl)) ?_; (with_reducible refine (head_right.calls (wrap64 (rd l0 5)) (wrap64 (rd l0 6)) (wrap64 (rd l0 7)) (wrap64 (t163)) t165 t167 false _ ?sideG A27.out).mono ?_); (case sideG => first | exact Laid.below HG.out (by repeat (first | (with_reducible first | exact HB.out | apply below_alloc | apply pw_below_drewN | apply below_drew1 | refine below_set ?_ GE152.out | refine below_set ?_ GE168.out) | exact HB.out)) | repeat (first | exact Laid.below HG.out HB.out | exact HG.out | (with_reducible refine Laid.alloc ?_ _) | (with_reducible refine Laid.drewN ?_ _) | (with_reducible refine Laid.drew ?_))); rintro e w72 ⟨rfl, hb⟩; refine ⟨_, rfl, ?_⟩; have n0_ := Aside0.mk (blk_below (g := gb152) (o := .cells #[.int .i64 0, .int .i64 0, .int .i64 0, .int .i64 0, .int .u64 0, .int .u32 0] 27 (0, 0)) (by (with_reducible repeat (first | refine blk_drewN ?_ _ | refine blk_drew ?_ | refine blk_alloc ?_ _)); refine blk_far ?_ NB152_168.out _; (with_reducible repeat (first | refine blk_drewN ?_ _ | refine blk_drew ?_ | refine blk_alloc ?_ _)); refine blk_far ?_ NB152_168.out _; (with_reducible repeat (first | refine blk_drewN ?_ _ | refine blk_drew ?_ | refine blk_alloc ?_ _)); refine blk_far ?_ NB152_168.out _; (with_reducible repeat (first | refine blk_drewN ?_ _ | refine blk_drew ?_ | refine blk_alloc ?_ _)); refine blk_far ?_ NB152_168.out _; (with_reducible repeat (first | refine blk_drewN ?_ _ | refine blk_drew ?_ | refine blk_alloc ?_ _)); refine blk_far ?_ NB152_168.out _; (with_reducible repeat (first | refine blk_drewN ?_ _ | refine blk_drew ?_ | refine blk_alloc ?_ _)); refine blk_far ?_ NB152_168.out _; (with_reducible repeat (first | refine blk_drewN ?_ _ | refine blk_drew ?_ | refine blk_alloc ?_ _)); exact BK152.out) hb); have n1_ := Aside0.mk (blk_below (g := gb168) (o := .cells #[.int .i64 (wrap64 (rd l0 5)), .int .i64 (wrap64 (rd l0 6)), .int .i64 (wrap64 (rd l0 7)), .int .i64 (wrap64 (t163)), .int .u64 t165, .int .u32 t167] 27 (0, 0)) (by (with_reducible repeat (first | refine blk_drewN ?_ _ | refine blk_drew ?_ | refine blk_alloc ?_ _)); refine blk_put (cs := #[.int .i64 (wrap64 (rd l0 5)), .int .i64 (wrap64 (rd l0 6)), .int .i64 (wrap64 (rd l0 7)), .int .i64 (wrap64 (t163)), .int .u64 t165, .int .u32 0]) ?_ 5 _ rfl; (with_reducible repeat (first | refine blk_drewN ?_ _ | refine blk_drew ?_ | refine blk_alloc ?_ _)); refine blk_put (cs := #[.int .i64 (wrap64 (rd l0 5)), .int .i64 (wrap64 (rd l0 6)), .int .i64 (wrap64 (rd l0 7)), .int .i64 (wrap64 (t163)), .int .u64 0, .int .u32 0]) ?_ 4 _ rfl; (with_reducible repeat (first | refine blk_drewN ?_ _ | refine blk_drew ?_ | refine blk_alloc ?_ _)); refine blk_put (cs := #[.int .i64 (wrap64 (rd l0 5)), .int .i64 (wrap64 (rd l0 6)), .int .i64 (wrap64 (rd l0 7)), .int .i64 0, .int .u64 0, .int .u32 0]) ?_ 3 _ rfl; (with_reducible repeat (first | refine blk_drewN ?_ _ | refine blk_drew ?_ | refine blk_alloc ?_ _)); refine blk_put (cs := #[.int .i64 (wrap64 (rd l0 5)), .int .i64 (wrap64 (rd l0 6)), .int .i64 0, .int .i64 0, .int .u64 0, .int .u32 0]) ?_ 2 _ rfl; (with_reducible repeat (first | refine blk_drewN ?_ _ | refine blk_drew ?_ | refine blk_alloc ?_ _)); refine blk_put (cs := #[.int .i64 (wrap64 (rd l0 5)), .int .i64 0, .int .i64 0, .int .i64 0, .int .u64 0, .int .u32 0]) ?_ 1 _ rfl; (with_reducible repeat (first | refine blk_drewN ?_ _ | refine blk_drew ?_ | refine blk_alloc ?_ _)); refine blk_put (cs := #[.int .i64 0, .int .i64 0, .int .i64 0, .int .i64 0, .int .u64 0, .int .u32 0]) ?_ 0 _ rfl; (with_reducible repeat (first | refine blk_drewN ?_ _ | refine blk_drew ?_ | refine blk_alloc ?_ _)); exact BK168.out) hb); have n2_ := Aside0.mk (below_step (by repeat (first | (with_reducible first | exact HB.out | apply below_alloc | apply pw_below_drewN | apply below_drew1 | refine below_set ?_ GE152.out | refine below_set ?_ GE168.out) | exact HB.out)) hb); clear BK152; clear BK168; clear HB; have BK152 := n0_; have BK168 := n1_; have HB := n2_; clear n0_ n1_ n2_; (try clear hb); (try clear hb2); (try clear hk); (try clear hi); have hcz73_0 : w72.cell? ⟨gb152, 0, none⟩ = some (.int .i64 0) := (blk_cell BK152.out 0).trans rfl; have hcz73_1 : w72.cell? ⟨gb152, 1, none⟩ = some (.int .i64 0) := (blk_cell BK152.out 1).trans rfl; have hcz73_2 : w72.cell? ⟨gb152, 2, none⟩ = some (.int .i64 0) := (blk_cell BK152.out 2).trans rfl; have hcz73_3 : w72.cell? ⟨gb152, 3, none⟩ = some (.int .i64 0) := (blk_cell BK152.out 3).trans rfl; have hcz73_4 : w72.cell? ⟨gb152, 4, none⟩ = some (.int .u64 0) := (blk_cell BK152.out 4).trans rfl; have hcz73_5 : w72.cell? ⟨gb152, 5, none⟩ = some (.int .u32 0) := (blk_cell BK152.out 5).trans rfl; have hfz73_0 := blk_frozen BK152.out 0; have hfz73_1 := blk_frozen BK152.out 1; have hfz73_2 := blk_frozen BK152.out 2; have hfz73_3 := blk_frozen BK152.out 3; have hfz73_4 := blk_frozen BK152.out 4; have hfz73_5 := blk_frozen BK152.out 5))
                                     refine bodyPost_ret (results_ct rfl _ _ gb152 27 #[.int .i64 0, .int .i64 0, .int .i64 0, .int .i64 0, .int .u64 0, .int .u32 0] (0, 0) _ rfl (by (with_reducible repeat (first | refine blk_drewN ?_ _ | refine blk_drew ?_ | refine blk_alloc ?_ _)); refine blk_put (cs := #[.int .i64 0, .int .i64 0, .int .i64 0, .int .i64 0, .int .u64 0, .int .u32 0]) ?_ 5 _ rfl; (with_reducible repeat (first | refine blk_drewN ?_ _ | refine blk_drew ?_ | refine blk_alloc ?_ _)); refine blk_put (cs := #[.int .i64 0, .int .i64 0, .int .i64 0, .int .i64 0, .int .u64 0, .int .u32 0]) ?_ 4 _ rfl; (with_reducible repeat (first | refine blk_drewN ?_ _ | refine blk_drew ?_ | refine blk_alloc ?_ _)); refine blk_put (cs := #[.int .i64 0, .int .i64 0, .int .i64 0, .int .i64 0, .int .u64 0, .int .u32 0]) ?_ 3 _ rfl; (with_reducible repeat (first | refine blk_drewN ?_ _ | refine blk_drew ?_ | refine blk_alloc ?_ _)); refine blk_put (cs := #[.int .i64 0, .int .i64 0, .int .i64 0, .int .i64 0, .int .u64 0, .int .u32 0]) ?_ 2 _ rfl; (with_reducible repeat (first | refine blk_drewN ?_ _ | refine blk_drew ?_ | refine blk_alloc ?_ _)); refine blk_put (cs := #[.int .i64 0, .int .i64 0, .int .i64 0, .int .i64 0, .int .u64 0, .int .u32 0]) ?_ 1 _ rfl; (with_reducible repeat (first | refine blk_drewN ?_ _ | refine blk_drew ?_ | refine blk_alloc ?_ _)); refine blk_put (cs := #[.int .i64 0, .int .i64 0, .int .i64 0, .int .i64 0, .int .u64 0, .int .u32 0]) ?_ 0 _ rfl; (with_reducible repeat (first | refine blk_drewN ?_ _ | refine blk_drew ?_ | refine blk_alloc ?_ _)); exact BK152.out) Tryd.underlying27 rfl (by kernel_rfl)) rfl ?_
                                     exact ⟨by first | rfl | (simp [errW_none, errW_some] <;> rfl) | (simp [*, errW_none, errW_some] <;> rfl), by repeat (first | (with_reducible first | exact HB.out | apply below_alloc | apply pw_below_drewN | apply below_drew1 | refine below_set ?_ GE152.out | refine below_set ?_ GE168.out) | exact HB.out)⟩
                                 · rw [if_neg c24] at H
                                   exact absurd H (by simp)
                               · rw [if_neg c22] at H
                                 exact absurd H (by simp)
                             · rw [if_neg c21] at H
                               exact absurd H (by simp)
                           · rw [if_neg c19] at H
                             exact absurd H (by simp)
                         · rw [if_neg c18] at H
                           exact absurd H (by simp)
                       · rw [if_neg c17] at H
                         exact absurd H (by simp)
                     · rw [if_neg c16] at H
                       exact absurd H (by simp)
                   · rw [if_neg c15] at H
                     exact absurd H (by simp)
                 · rw [if_neg c14] at H
                   have c14b0 : (t156 == t158) = false := beq_eq_false_iff_ne.mpr c14
                   have c14b1 : (t156 != t158) = true := bne_iff_ne.mpr c14
                   simp only [Option.some.injEq, Prod.mk.injEq] at H
                   obtain ⟨rfl, rfl, rfl, rfl, rfl, rfl, rfl⟩ := H
                   go_enter Tryd.func13, Tryd.ntmps13
                   try go_wp2_with (first | ((with_reducible refine gate_dst (N := 2) rfl ?_); refine box_event ?hg (N := 2) ?hd (cs := #[.int .i64 0, .int .i64 0, .int .i64 0, .int .i64 0, .int .u64 0, .int .u32 0]) (t := 27) ?hr ?_; (case hd => rfl); (case hg => rfl); (case hr => first | (go_simp; done) | (go_simp; rfl)); intro gb152 hg w74 hbox hb; have n0_ := Aside0.mk (below_step (by repeat (first | (with_reducible first | exact HB.out | apply below_alloc | apply pw_below_drewN | apply below_drew1) | exact HB.out)) hb); have n1_ := Aside0.mk (hbox); have n2_ := Aside0.mk ((by rw [hg]; exact (below_size (by repeat (first | (with_reducible first | exact HB.out | apply below_alloc | apply pw_below_drewN | apply below_drew1) | exact HB.out))) : w.heap.size ≤ gb152)); have n3_ := Aside0.mk ((by rw [hg]; exact (below_size (by repeat (first | (with_reducible first | exact HB.out | apply below_alloc | apply pw_below_drewN | apply below_drew1) | exact HB.out))) : w.heap.size ≤ gb152)); clear HB; have HB := n0_; have BK152 := n1_; have GW152 := n2_; have GE152 := n3_; clear n0_ n1_ n2_ n3_; clear hb hbox hg; obtain ⟨i075, hi075, _, hsz75, _⟩ := info_parts info5; obtain ⟨hcut75, hA75, hC75⟩ := print_take_of (P := Tryd.prog) (Value.int .u8) 0 29 5 .i64 Tryd.underlying29 hi075 hsz75 A0 c0 l0 4 (by omega) (of_decide_eq_true (by first | (with_reducible assumption) | assumption)) HC0.out; have HR153 := Aside0.mk (Kd.C_of_reads (h1 := fun _ => rfl) (hA75 _ (Kd.reads_of_C HR0.out))); have HC153 := Aside0.mk hC75; clear hA75 hC75 hi075 hsz75; have hcv76 := Kd.C_string (P := Tryd.prog) (A := A0) (c := c0) Tryd.underlying29 Tryd.underlying5 Tryd.underlying9 (Kd.C_below HR153.out HB.out); (try simp only [List.length_take, Int.reduceToNat] at hcv76); have p154 : 0 ≤ (4 : Int) := (by omega); have q154 : 4 < (l0.length : Int) := of_decide_eq_true (by first | (with_reducible assumption) | assumption); obtain ⟨ad154, e154, hx154_0⟩ := Kd.at_int HR0.out 4 p154 q154; cases e154; (try simp only [show (4 : Int).toNat = 4 from rfl, Nat.reduceMul, Nat.reduceEqDiff, Go.Addr.add, ↓reduceIte] at hx154_0); have qi154 : (4 < l0.length) = True := eq_true (by omega); (try rw [show ((4 : Int)).toNat = 4 from rfl] at hx154_0); replace hx154_0 := (HB.out.cell (World.block_lt_of_cell? w _ hx154_0)).trans hx154_0; replace p154 := eq_true p154; replace q154 := eq_true q154))
                   have n0_ := Aside0.mk (blk_drew BK152.out)
                   have n1_ := Aside0.mk (below_drew1 HB.out)
                   clear BK152
                   clear HB
                   have BK152 := n0_
                   have HB := n1_
                   clear n0_ n1_
                   obtain ⟨i078, hi078, _, hsz78, _⟩ := info_parts info5
                   obtain ⟨hcut78, hA78, hC78⟩ := print_take_of (P := Tryd.prog) (Value.int .u8) 0 29 5 .i64 Tryd.underlying29 hi078 hsz78 (some ad154) c0 l0 24 (by omega) (of_decide_eq_true (by first | (with_reducible assumption) | assumption)) HC0.out
                   have HR155 := Aside0.mk (Kd.C_of_reads (h1 := fun _ => rfl) (hA78 _ (Kd.reads_of_C HR0.out)))
                   have HC155 := Aside0.mk hC78
                   clear hA78 hC78 hi078 hsz78
                   obtain ⟨i079, hi079, _, hsz79, _⟩ := info_parts info5
                   obtain ⟨A79, hcut79, hA79, hC79⟩ := print_mid_of (P := Tryd.prog) (Value.int .u8) 0 29 5 .i64 .i64 Tryd.underlying29 hi079 hsz79 (some ad154) c0 l0 24 28 (by omega) (by first | omega | exact of_decide_eq_true (by first | (with_reducible assumption) | assumption)) (of_decide_eq_true (by first | (with_reducible assumption) | assumption)) HC0.out
                   have HR157 := Aside0.mk (Kd.C_of_reads (h1 := fun _ => rfl) (hA79 _ (Kd.reads_of_C HR0.out)))
                   have HC157 := Aside0.mk hC79
                   clear hA79 hC79 hi079 hsz79
                   refine start_ (n := 8) (S := fun w' => True) (ds := []) #[false, false, false, false, false, false, false, false] (by kernel_rfl) rfl rfl trivial (fun hHeld => ?_); refine with_tabW head_Decode.tab7 head_Decode.bits7 (fun HT_ HW_ => ?_)
                   generalize w74.drew = w77 at BK152 HB HR155 HR157 hHeld ⊢
                   refine pure_ (i := 0) (N := some 23) (v := ?_) (a' := ?_) #[true, false, false, false, false, false, false, false] rfl rfl (any_of HT_.out (by kernel_rfl)) (fun _ _ _ h => h) (Or.inl ⟨by rfl, ?_⟩) ?_ ?_
                   rotate_left
                   · intro w'
                     go_simp
                     with_reducible rfl
                   rotate_left
                   · simp only [Act.put, List.setIfInBounds_toArray, List.set_cons_zero, List.set_cons_succ, i64_w, i32_w]
                     rfl
                   refine pure_ (i := 1) (N := some 24) (v := ?_) (a' := ?_) #[true, true, false, false, false, false, false, false] rfl rfl (any_of HT_.out (by kernel_rfl)) (fun _ _ _ h => h) (Or.inl ⟨by rfl, ?_⟩) ?_ ?_
                   rotate_left
                   · intro w'
                     go_simp
                     with_reducible rfl
                   rotate_left
                   · simp only [Act.put, List.setIfInBounds_toArray, List.set_cons_zero, List.set_cons_succ, i64_w, i32_w]
                     rfl
                   refine pure_ (i := 3) (N := some 26) (v := ?_) (a' := ?_) #[true, true, false, true, false, false, false, false] rfl rfl (any_of HT_.out (by kernel_rfl)) (fun _ _ _ h => h) (Or.inl ⟨by rfl, ?_⟩) ?_ ?_
                   rotate_left
                   · intro w'
                     go_simp
                     with_reducible rfl
                   rotate_left
                   · simp only [Act.put, List.setIfInBounds_toArray, List.set_cons_zero, List.set_cons_succ, i64_w, i32_w]
                     rfl
                   refine pure_ (i := 4) (N := some 27) (v := ?_) (a' := ?_) #[true, true, false, true, true, false, false, false] rfl rfl (any_of HT_.out (by kernel_rfl)) (fun _ _ _ h => h) (Or.inl ⟨by rfl, ?_⟩) ?_ ?_
                   rotate_left
                   · intro w'
                     go_simp
                     with_reducible rfl
                   rotate_left
                   · simp only [Act.put, List.setIfInBounds_toArray, List.set_cons_zero, List.set_cons_succ, i64_w, i32_w]
                     rfl
                   refine one_ (i := 2) (N := some 25) #[true, true, true, true, true, false, false, false] rfl rfl (one_of HT_.out (by kernel_rfl)) (by decide) (fun K hK => ?_)
                   refine goes_ Tryd.func16 (by kernel_rfl) rfl #[.slice (some ad154) (l0.take 24).length c0] (by rfl) rfl rfl (by (try simp only [List.map_toArray, List.map_cons, List.map_nil]); first | done | (rw [show (l0.take 24).length = 24 from (by rw [List.length_take]; have h_ : (24 : Int) ≤ (l0.length : Int) := of_decide_eq_true (by first | (with_reducible assumption) | assumption); omega)] <;> rfl) | rfl | (simp only [List.length_drop, List.length_take]; rfl)) ?_
                   with_reducible refine (crc_Sum.calls k _ _ (l0.take 24) t156 _ ?side1 ?side2 A10.out).mono ?_
                   (case side1 => repeat (first | exact (Kd.C_below HR155.out HB.out) | (with_reducible refine Kd.C_alloc ?_ _) | (with_reducible refine Kd.C_drewN ?_ _) | (with_reducible refine Kd.C_drew ?_)))
                   (case side2 => exact HC155.out)
                   rintro e w' ⟨rfl, ⟨nd, rfl⟩⟩
                   refine ⟨_, rfl, ?_⟩
                   refine hK.out _ _ trivial (fun hHeld => ?_)
                   clear hK K
                   refine norm_ (a' := ?_) ?_ ?_
                   rotate_left
                   · show Act.put _ (some 25) _ = _
                     simp only [Act.put, List.setIfInBounds_toArray, List.set_cons_zero, List.set_cons_succ, i64_w, i32_w]
                     rfl
                   refine one_ (i := 5) (N := some 28) #[true, true, true, true, true, true, false, false] rfl rfl (one_of HT_.out (by kernel_rfl)) (by decide) (fun K hK => ?_)
                   refine goes_ Tryd.func25 (by kernel_rfl) rfl #[.slice A79 ((l0.take 28).drop 24).length (c0 - 24)] (by rfl) rfl rfl (by (try simp only [List.map_toArray, List.map_cons, List.map_nil]); first | done | (rw [show ((l0.take 28).drop 24).length = (28 - 24) from (by rw [List.length_drop, List.length_take]; have h_ : (28 : Int) ≤ (l0.length : Int) := of_decide_eq_true (by first | (with_reducible assumption) | assumption); omega)] <;> rfl) | rfl | (simp only [List.length_drop, List.length_take]; rfl)) ?_
                   with_reducible refine (head_take_uint32.calls k _ _ ((l0.take 28).drop 24) t158 _ ?side1 ?side2 A13.out).mono ?_
                   (case side1 => repeat (first | exact (Kd.C_below HR157.out (by repeat (first | (with_reducible first | exact HB.out | apply below_alloc | apply pw_below_drewN | apply below_drew1 | refine below_set ?_ GE152.out) | exact HB.out))) | (with_reducible refine Kd.C_alloc ?_ _) | (with_reducible refine Kd.C_drewN ?_ _) | (with_reducible refine Kd.C_drew ?_)))
                   (case side2 => exact HC157.out)
                   rintro e w' ⟨rfl, ⟨nd, rfl⟩⟩
                   refine ⟨_, rfl, ?_⟩
                   refine hK.out _ _ trivial (fun hHeld => ?_)
                   clear hK K
                   refine norm_ (a' := ?_) ?_ ?_
                   rotate_left
                   · show Act.put _ (some 28) _ = _
                     simp only [Act.put, List.setIfInBounds_toArray, List.set_cons_zero, List.set_cons_succ, i64_w, i32_w]
                     rfl
                   refine pure_ (i := 6) (N := some 29) (v := ?_) (a' := ?_) #[true, true, true, true, true, true, true, false] rfl rfl (any_of HT_.out (by kernel_rfl)) (fun _ _ _ h => h) (Or.inl ⟨by rfl, ?_⟩) ?_ ?_
                   rotate_left
                   · intro w'
                     go_simp
                     with_reducible rfl
                   rotate_left
                   · simp only [Act.put, List.setIfInBounds_toArray, List.set_cons_zero, List.set_cons_succ, i64_w, i32_w]
                     rfl
                   refine pure_ (i := 7) (N := some 22) (v := ?_) (a' := ?_) #[true, true, true, true, true, true, true, true] rfl rfl (any_of HT_.out (by kernel_rfl)) (fun _ _ _ h => h) (Or.inl ⟨by rfl, ?_⟩) ?_ ?_
                   rotate_left
                   · intro w'
                     go_simp
                     with_reducible rfl
                   rotate_left
                   · simp only [Act.put, List.setIfInBounds_toArray, List.set_cons_zero, List.set_cons_succ, i64_w, i32_w]
                     rfl
                   refine done_ (done_of HT_.out (by kernel_rfl)) ?_
                   have hcz80_0 : w77.cell? ⟨gb152, 0, none⟩ = some (.int .i64 0) := (blk_cell BK152.out 0).trans rfl
                   have hcz80_1 : w77.cell? ⟨gb152, 1, none⟩ = some (.int .i64 0) := (blk_cell BK152.out 1).trans rfl
                   have hcz80_2 : w77.cell? ⟨gb152, 2, none⟩ = some (.int .i64 0) := (blk_cell BK152.out 2).trans rfl
                   have hcz80_3 : w77.cell? ⟨gb152, 3, none⟩ = some (.int .i64 0) := (blk_cell BK152.out 3).trans rfl
                   have hcz80_4 : w77.cell? ⟨gb152, 4, none⟩ = some (.int .u64 0) := (blk_cell BK152.out 4).trans rfl
                   have hcz80_5 : w77.cell? ⟨gb152, 5, none⟩ = some (.int .u32 0) := (blk_cell BK152.out 5).trans rfl
                   have hfz80_0 := blk_frozen BK152.out 0
                   have hfz80_1 := blk_frozen BK152.out 1
                   have hfz80_2 := blk_frozen BK152.out 2
                   have hfz80_3 := blk_frozen BK152.out 3
                   have hfz80_4 := blk_frozen BK152.out 4
                   have hfz80_5 := blk_frozen BK152.out 5
                   try go_wp2
                   refine bodyPost_ret (results_ct rfl _ _ gb152 27 #[.int .i64 0, .int .i64 0, .int .i64 0, .int .i64 0, .int .u64 0, .int .u32 0] (0, 0) _ rfl (by (with_reducible repeat (first | refine blk_drewN ?_ _ | refine blk_drew ?_ | refine blk_alloc ?_ _)); refine blk_put (cs := #[.int .i64 0, .int .i64 0, .int .i64 0, .int .i64 0, .int .u64 0, .int .u32 0]) ?_ 5 _ rfl; (with_reducible repeat (first | refine blk_drewN ?_ _ | refine blk_drew ?_ | refine blk_alloc ?_ _)); refine blk_put (cs := #[.int .i64 0, .int .i64 0, .int .i64 0, .int .i64 0, .int .u64 0, .int .u32 0]) ?_ 4 _ rfl; (with_reducible repeat (first | refine blk_drewN ?_ _ | refine blk_drew ?_ | refine blk_alloc ?_ _)); refine blk_put (cs := #[.int .i64 0, .int .i64 0, .int .i64 0, .int .i64 0, .int .u64 0, .int .u32 0]) ?_ 3 _ rfl; (with_reducible repeat (first | refine blk_drewN ?_ _ | refine blk_drew ?_ | refine blk_alloc ?_ _)); refine blk_put (cs := #[.int .i64 0, .int .i64 0, .int .i64 0, .int .i64 0, .int .u64 0, .int .u32 0]) ?_ 2 _ rfl; (with_reducible repeat (first | refine blk_drewN ?_ _ | refine blk_drew ?_ | refine blk_alloc ?_ _)); refine blk_put (cs := #[.int .i64 0, .int .i64 0, .int .i64 0, .int .i64 0, .int .u64 0, .int .u32 0]) ?_ 1 _ rfl; (with_reducible repeat (first | refine blk_drewN ?_ _ | refine blk_drew ?_ | refine blk_alloc ?_ _)); refine blk_put (cs := #[.int .i64 0, .int .i64 0, .int .i64 0, .int .i64 0, .int .u64 0, .int .u32 0]) ?_ 0 _ rfl; (with_reducible repeat (first | refine blk_drewN ?_ _ | refine blk_drew ?_ | refine blk_alloc ?_ _)); exact BK152.out) Tryd.underlying27 rfl (by kernel_rfl)) rfl ?_
                   exact ⟨by first | rfl | (simp [errW_none, errW_some] <;> rfl) | (simp [*, errW_none, errW_some] <;> rfl), by repeat (first | (with_reducible first | exact HB.out | apply below_alloc | apply pw_below_drewN | apply below_drew1 | refine below_set ?_ GE152.out) | exact HB.out)⟩
               · rw [if_neg c12] at H
                 exact absurd H (by simp)
             · rw [if_neg c11] at H
               exact absurd H (by simp)
           · rw [if_neg c9] at H
             exact absurd H (by simp)
         · rw [if_neg c8] at H
           have c8b0 : ((rd l0 4) == 1) = false := beq_eq_false_iff_ne.mpr c8
           have c8b1 : ((rd l0 4) != 1) = true := bne_iff_ne.mpr c8
           simp only [Option.some.injEq, Prod.mk.injEq] at H
           obtain ⟨rfl, rfl, rfl, rfl, rfl, rfl, rfl⟩ := H
           go_enter Tryd.func13, Tryd.ntmps13
           go_wp2_with (first | ((with_reducible refine gate_dst (N := 2) rfl ?_); refine box_event ?hg (N := 2) ?hd (cs := #[.int .i64 0, .int .i64 0, .int .i64 0, .int .i64 0, .int .u64 0, .int .u32 0]) (t := 27) ?hr ?_; (case hd => rfl); (case hg => rfl); (case hr => first | (go_simp; done) | (go_simp; rfl)); intro gb152 hg w81 hbox hb; have n0_ := Aside0.mk (below_step (by repeat (first | (with_reducible first | exact HB.out | apply below_alloc | apply pw_below_drewN | apply below_drew1) | exact HB.out)) hb); have n1_ := Aside0.mk (hbox); have n2_ := Aside0.mk ((by rw [hg]; exact (below_size (by repeat (first | (with_reducible first | exact HB.out | apply below_alloc | apply pw_below_drewN | apply below_drew1) | exact HB.out))) : w.heap.size ≤ gb152)); have n3_ := Aside0.mk ((by rw [hg]; exact (below_size (by repeat (first | (with_reducible first | exact HB.out | apply below_alloc | apply pw_below_drewN | apply below_drew1) | exact HB.out))) : w.heap.size ≤ gb152)); clear HB; have HB := n0_; have BK152 := n1_; have GW152 := n2_; have GE152 := n3_; clear n0_ n1_ n2_ n3_; clear hb hbox hg; obtain ⟨i082, hi082, _, hsz82, _⟩ := info_parts info5; obtain ⟨hcut82, hA82, hC82⟩ := print_take_of (P := Tryd.prog) (Value.int .u8) 0 29 5 .i64 Tryd.underlying29 hi082 hsz82 A0 c0 l0 4 (by omega) (of_decide_eq_true (by first | (with_reducible assumption) | assumption)) HC0.out; have HR153 := Aside0.mk (Kd.C_of_reads (h1 := fun _ => rfl) (hA82 _ (Kd.reads_of_C HR0.out))); have HC153 := Aside0.mk hC82; clear hA82 hC82 hi082 hsz82; have hcv83 := Kd.C_string (P := Tryd.prog) (A := A0) (c := c0) Tryd.underlying29 Tryd.underlying5 Tryd.underlying9 (Kd.C_below HR153.out HB.out); (try simp only [List.length_take, Int.reduceToNat] at hcv83); have p154 : 0 ≤ (4 : Int) := (by omega); have q154 : 4 < (l0.length : Int) := of_decide_eq_true (by first | (with_reducible assumption) | assumption); obtain ⟨ad154, e154, hx154_0⟩ := Kd.at_int HR0.out 4 p154 q154; cases e154; (try simp only [show (4 : Int).toNat = 4 from rfl, Nat.reduceMul, Nat.reduceEqDiff, Go.Addr.add, ↓reduceIte] at hx154_0); have qi154 : (4 < l0.length) = True := eq_true (by omega); (try rw [show ((4 : Int)).toNat = 4 from rfl] at hx154_0); replace hx154_0 := (HB.out.cell (World.block_lt_of_cell? w _ hx154_0)).trans hx154_0; replace p154 := eq_true p154; replace q154 := eq_true q154; have hcz84_0 : w81.cell? ⟨gb152, 0, none⟩ = some (.int .i64 0) := (blk_cell BK152.out 0).trans rfl; have hcz84_1 : w81.cell? ⟨gb152, 1, none⟩ = some (.int .i64 0) := (blk_cell BK152.out 1).trans rfl; have hcz84_2 : w81.cell? ⟨gb152, 2, none⟩ = some (.int .i64 0) := (blk_cell BK152.out 2).trans rfl; have hcz84_3 : w81.cell? ⟨gb152, 3, none⟩ = some (.int .i64 0) := (blk_cell BK152.out 3).trans rfl; have hcz84_4 : w81.cell? ⟨gb152, 4, none⟩ = some (.int .u64 0) := (blk_cell BK152.out 4).trans rfl; have hcz84_5 : w81.cell? ⟨gb152, 5, none⟩ = some (.int .u32 0) := (blk_cell BK152.out 5).trans rfl; have hfz84_0 := blk_frozen BK152.out 0; have hfz84_1 := blk_frozen BK152.out 1; have hfz84_2 := blk_frozen BK152.out 2; have hfz84_3 := blk_frozen BK152.out 3; have hfz84_4 := blk_frozen BK152.out 4; have hfz84_5 := blk_frozen BK152.out 5))
           refine bodyPost_ret (results_ct rfl _ _ gb152 27 #[.int .i64 0, .int .i64 0, .int .i64 0, .int .i64 0, .int .u64 0, .int .u32 0] (0, 0) _ rfl (by (with_reducible repeat (first | refine blk_drewN ?_ _ | refine blk_drew ?_ | refine blk_alloc ?_ _)); refine blk_put (cs := #[.int .i64 0, .int .i64 0, .int .i64 0, .int .i64 0, .int .u64 0, .int .u32 0]) ?_ 5 _ rfl; (with_reducible repeat (first | refine blk_drewN ?_ _ | refine blk_drew ?_ | refine blk_alloc ?_ _)); refine blk_put (cs := #[.int .i64 0, .int .i64 0, .int .i64 0, .int .i64 0, .int .u64 0, .int .u32 0]) ?_ 4 _ rfl; (with_reducible repeat (first | refine blk_drewN ?_ _ | refine blk_drew ?_ | refine blk_alloc ?_ _)); refine blk_put (cs := #[.int .i64 0, .int .i64 0, .int .i64 0, .int .i64 0, .int .u64 0, .int .u32 0]) ?_ 3 _ rfl; (with_reducible repeat (first | refine blk_drewN ?_ _ | refine blk_drew ?_ | refine blk_alloc ?_ _)); refine blk_put (cs := #[.int .i64 0, .int .i64 0, .int .i64 0, .int .i64 0, .int .u64 0, .int .u32 0]) ?_ 2 _ rfl; (with_reducible repeat (first | refine blk_drewN ?_ _ | refine blk_drew ?_ | refine blk_alloc ?_ _)); refine blk_put (cs := #[.int .i64 0, .int .i64 0, .int .i64 0, .int .i64 0, .int .u64 0, .int .u32 0]) ?_ 1 _ rfl; (with_reducible repeat (first | refine blk_drewN ?_ _ | refine blk_drew ?_ | refine blk_alloc ?_ _)); refine blk_put (cs := #[.int .i64 0, .int .i64 0, .int .i64 0, .int .i64 0, .int .u64 0, .int .u32 0]) ?_ 0 _ rfl; (with_reducible repeat (first | refine blk_drewN ?_ _ | refine blk_drew ?_ | refine blk_alloc ?_ _)); exact BK152.out) Tryd.underlying27 rfl (by kernel_rfl)) rfl ?_
           exact ⟨by first | rfl | (simp [errW_none, errW_some] <;> rfl) | (simp [*, errW_none, errW_some] <;> rfl), by repeat (first | (with_reducible first | exact HB.out | apply below_alloc | apply pw_below_drewN | apply below_drew1 | refine below_set ?_ GE152.out) | exact HB.out)⟩
       · rw [if_neg c7] at H
         exact absurd H (by simp)
     · rw [if_neg c6] at H
       have c6b0 : ((strOfNums (l0.take 4)).toList == ([75, 69, 69, 80] : List UInt8)) = false := beq_eq_false_iff_ne.mpr c6
       have c6b1 : ((strOfNums (l0.take 4)).toList != ([75, 69, 69, 80] : List UInt8)) = true := bne_iff_ne.mpr c6
       simp only [Option.some.injEq, Prod.mk.injEq] at H
       obtain ⟨rfl, rfl, rfl, rfl, rfl, rfl, rfl⟩ := H
       go_enter Tryd.func13, Tryd.ntmps13
       go_wp2_with (first | ((with_reducible refine gate_dst (N := 2) rfl ?_); refine box_event ?hg (N := 2) ?hd (cs := #[.int .i64 0, .int .i64 0, .int .i64 0, .int .i64 0, .int .u64 0, .int .u32 0]) (t := 27) ?hr ?_; (case hd => rfl); (case hg => rfl); (case hr => first | (go_simp; done) | (go_simp; rfl)); intro gb152 hg w85 hbox hb; have n0_ := Aside0.mk (below_step (by repeat (first | (with_reducible first | exact HB.out | apply below_alloc | apply pw_below_drewN | apply below_drew1) | exact HB.out)) hb); have n1_ := Aside0.mk (hbox); have n2_ := Aside0.mk ((by rw [hg]; exact (below_size (by repeat (first | (with_reducible first | exact HB.out | apply below_alloc | apply pw_below_drewN | apply below_drew1) | exact HB.out))) : w.heap.size ≤ gb152)); have n3_ := Aside0.mk ((by rw [hg]; exact (below_size (by repeat (first | (with_reducible first | exact HB.out | apply below_alloc | apply pw_below_drewN | apply below_drew1) | exact HB.out))) : w.heap.size ≤ gb152)); clear HB; have HB := n0_; have BK152 := n1_; have GW152 := n2_; have GE152 := n3_; clear n0_ n1_ n2_ n3_; clear hb hbox hg; obtain ⟨i086, hi086, _, hsz86, _⟩ := info_parts info5; obtain ⟨hcut86, hA86, hC86⟩ := print_take_of (P := Tryd.prog) (Value.int .u8) 0 29 5 .i64 Tryd.underlying29 hi086 hsz86 A0 c0 l0 4 (by omega) (of_decide_eq_true (by first | (with_reducible assumption) | assumption)) HC0.out; have HR153 := Aside0.mk (Kd.C_of_reads (h1 := fun _ => rfl) (hA86 _ (Kd.reads_of_C HR0.out))); have HC153 := Aside0.mk hC86; clear hA86 hC86 hi086 hsz86; have hcv87 := Kd.C_string (P := Tryd.prog) (A := A0) (c := c0) Tryd.underlying29 Tryd.underlying5 Tryd.underlying9 (Kd.C_below HR153.out HB.out); (try simp only [List.length_take, Int.reduceToNat] at hcv87); have hcz88_0 : w85.cell? ⟨gb152, 0, none⟩ = some (.int .i64 0) := (blk_cell BK152.out 0).trans rfl; have hcz88_1 : w85.cell? ⟨gb152, 1, none⟩ = some (.int .i64 0) := (blk_cell BK152.out 1).trans rfl; have hcz88_2 : w85.cell? ⟨gb152, 2, none⟩ = some (.int .i64 0) := (blk_cell BK152.out 2).trans rfl; have hcz88_3 : w85.cell? ⟨gb152, 3, none⟩ = some (.int .i64 0) := (blk_cell BK152.out 3).trans rfl; have hcz88_4 : w85.cell? ⟨gb152, 4, none⟩ = some (.int .u64 0) := (blk_cell BK152.out 4).trans rfl; have hcz88_5 : w85.cell? ⟨gb152, 5, none⟩ = some (.int .u32 0) := (blk_cell BK152.out 5).trans rfl; have hfz88_0 := blk_frozen BK152.out 0; have hfz88_1 := blk_frozen BK152.out 1; have hfz88_2 := blk_frozen BK152.out 2; have hfz88_3 := blk_frozen BK152.out 3; have hfz88_4 := blk_frozen BK152.out 4; have hfz88_5 := blk_frozen BK152.out 5))
       refine bodyPost_ret (results_ct rfl _ _ gb152 27 #[.int .i64 0, .int .i64 0, .int .i64 0, .int .i64 0, .int .u64 0, .int .u32 0] (0, 0) _ rfl (by (with_reducible repeat (first | refine blk_drewN ?_ _ | refine blk_drew ?_ | refine blk_alloc ?_ _)); refine blk_put (cs := #[.int .i64 0, .int .i64 0, .int .i64 0, .int .i64 0, .int .u64 0, .int .u32 0]) ?_ 5 _ rfl; (with_reducible repeat (first | refine blk_drewN ?_ _ | refine blk_drew ?_ | refine blk_alloc ?_ _)); refine blk_put (cs := #[.int .i64 0, .int .i64 0, .int .i64 0, .int .i64 0, .int .u64 0, .int .u32 0]) ?_ 4 _ rfl; (with_reducible repeat (first | refine blk_drewN ?_ _ | refine blk_drew ?_ | refine blk_alloc ?_ _)); refine blk_put (cs := #[.int .i64 0, .int .i64 0, .int .i64 0, .int .i64 0, .int .u64 0, .int .u32 0]) ?_ 3 _ rfl; (with_reducible repeat (first | refine blk_drewN ?_ _ | refine blk_drew ?_ | refine blk_alloc ?_ _)); refine blk_put (cs := #[.int .i64 0, .int .i64 0, .int .i64 0, .int .i64 0, .int .u64 0, .int .u32 0]) ?_ 2 _ rfl; (with_reducible repeat (first | refine blk_drewN ?_ _ | refine blk_drew ?_ | refine blk_alloc ?_ _)); refine blk_put (cs := #[.int .i64 0, .int .i64 0, .int .i64 0, .int .i64 0, .int .u64 0, .int .u32 0]) ?_ 1 _ rfl; (with_reducible repeat (first | refine blk_drewN ?_ _ | refine blk_drew ?_ | refine blk_alloc ?_ _)); refine blk_put (cs := #[.int .i64 0, .int .i64 0, .int .i64 0, .int .i64 0, .int .u64 0, .int .u32 0]) ?_ 0 _ rfl; (with_reducible repeat (first | refine blk_drewN ?_ _ | refine blk_drew ?_ | refine blk_alloc ?_ _)); exact BK152.out) Tryd.underlying27 rfl (by kernel_rfl)) rfl ?_
       exact ⟨by first | rfl | (simp [errW_none, errW_some] <;> rfl) | (simp [*, errW_none, errW_some] <;> rfl), by repeat (first | (with_reducible first | exact HB.out | apply below_alloc | apply pw_below_drewN | apply below_drew1 | refine below_set ?_ GE152.out) | exact HB.out)⟩
   · rw [if_neg c5] at H
     exact absurd H (by simp)

end Go.Proofs.YtlinaijndlcfjaaDoor.All
-- slimmed
