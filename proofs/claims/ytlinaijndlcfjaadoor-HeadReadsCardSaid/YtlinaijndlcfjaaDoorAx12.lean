-- written by a program of mine (xprint_patch.py over the kit's print)
import Derived.Test.YtlinaijndlcfjaaDoorAx0
import Derived.Test.YtlinaijndlcfjaaDoorAx2
import Derived.Test.YtlinaijndlcfjaaDoorAx3
import Derived.Test.YtlinaijndlcfjaaDoorAx5
import Derived.Test.YtlinaijndlcfjaaDoorAx6
import Derived.Test.YtlinaijndlcfjaaDoorAx11
namespace Go.Proofs.YtlinaijndlcfjaaDoor.Given
end Go.Proofs.YtlinaijndlcfjaaDoor.Given
namespace Go.Proofs.YtlinaijndlcfjaaDoor.All
open Go.Proofs.YtlinaijndlcfjaaDoor.Given
open Go.RowKit Go.Proofs.YtlinaijndlcfjaaDoorW.PrintWords Go.Proofs.YtlinaijndlcfjaaDoorW.PrintLast Go.Proofs.YtlinaijndlcfjaaDoorW.PrintMore
attribute [local go_sem] max2_int min2_int max_two min_two max_three min_three max_four min_four   -- for this text's walks alone
set_option linter.unusedVariables false
set_option linter.unusedSimpArgs false

attribute [local go_sem high] eqA27
/-! ### keepsakelaw04_HeadReads: function 4 -/
def keepsakelaw04_HeadReads.j0 : Nat → List Int → Bool → Bool → Option (Bool)
 | 0, _, _, _ => none
 | k + 1, x0, x3, x31 => if x31 = true then (none) else (if (x0.length : Int) < 24 then (some x3) else ((some (([] : List Int) : List Int)).bind fun y316 => (if 24 ≤ (x0.length : Int) then (if y316.length + (x0.take 24).length < 140737488355328 then ((some (y316 ++ (x0.take 24) : List Int)).bind fun y320 => ((crc_Sum.f k y320).bind fun t323 => ((keepsakeref04_Bytes.f k (IntKind.u64.wrap (t323)) 4).bind fun t324 => (if y320.length + t324.length < 140737488355328 then ((some (y320 ++ t324 : List Int)).bind fun y327 => ((head_Decode.f k y327).bind fun bt330 => ((keepsakeref04_Decode.f k y327).bind fun bt337 => (if x3 = true then (if ((bt330.1 == bt337.1 && (bt330.2.1 == bt337.2.1 && (bt330.2.2.1 == bt337.2.2.1))) && (bt330.2.2.2.1 == bt337.2.2.2.1 && (bt330.2.2.2.2.1 == bt337.2.2.2.2.1 && (bt330.2.2.2.2.2.1 == bt337.2.2.2.2.2.1)))) = true then (some (bt330.2.2.2.2.2.2 == bt337.2.2.2.2.2.2)) else (none)) else (none))))) else (none))))) else (none)) else (none))))
def keepsakelaw04_HeadReads.f (k : Nat) (l0 : List Int) : Option (Bool) := (keepsakelaw04_awake.f k).bind fun t299 => (if (l0.length : Int) > 60 then (some t299) else ((head_Decode.f k l0).bind fun bt300 => ((keepsakeref04_Decode.f k l0).bind fun bt308 => (if ((!(bt300.1 == bt308.1) || (!(bt300.2.1 == bt308.2.1) || (!(bt300.2.2.1 == bt308.2.2.1)))) || (!(bt300.2.2.2.1 == bt308.2.2.2.1) || (!(bt300.2.2.2.2.1 == bt308.2.2.2.2.1) || (!(bt300.2.2.2.2.2.1 == bt308.2.2.2.2.2.1))))) = true then (keepsakelaw04_HeadReads.j0 k l0 t299 true) else (keepsakelaw04_HeadReads.j0 k l0 t299 (bt300.2.2.2.2.2.2 != bt308.2.2.2.2.2.2))))))
theorem keepsakelaw04_HeadReads.mono_l : ∀ k, (∀ y0 y1 y2, LeO (keepsakelaw04_HeadReads.j0 k y0 y1 y2) (keepsakelaw04_HeadReads.j0 (k + 1) y0 y1 y2))
 | 0 => fun _ _ _ r h => by simp [keepsakelaw04_HeadReads.j0] at h
 | k + 1 => by
  have ih0 := keepsakelaw04_HeadReads.mono_l k
  · intro y0 y1 y2
    unfold keepsakelaw04_HeadReads.j0
    repeat' first
    | (with_reducible exact ih0 _ _ _)
    | (with_reducible exact crc_Sum.mono _ _)
    | (with_reducible exact head_Decode.mono _ _)
    | (with_reducible exact keepsakelaw04_awake.mono _)
    | (with_reducible exact keepsakeref04_Bytes.mono _ _ _)
    | (with_reducible exact keepsakeref04_Decode.mono _ _)
    | (with_reducible exact LeO.refl _)
    | (with_reducible exact LeO.none _)
    | (with_reducible refine LeO.ite ?_ ?_)
    | (with_reducible refine LeO.bind ?_ (fun _ => ?_))
    | exact ih0 _ _ _
    | exact crc_Sum.mono _ _
    | exact head_Decode.mono _ _
    | exact keepsakelaw04_awake.mono _
    | exact keepsakeref04_Bytes.mono _ _ _
    | exact keepsakeref04_Decode.mono _ _
    | exact LeO.none _
    | refine LeO.ite ?_ ?_
    | refine LeO.bind ?_ (fun _ => ?_)
theorem keepsakelaw04_HeadReads.mono : ∀ a0 k, LeO (keepsakelaw04_HeadReads.f k a0) (keepsakelaw04_HeadReads.f (k + 1) a0) := by
 intro a0 k
 have ih0 := keepsakelaw04_HeadReads.mono_l k
 unfold keepsakelaw04_HeadReads.f
 repeat' first
  | (with_reducible exact ih0 _ _ _)
  | (with_reducible exact crc_Sum.mono _ _)
  | (with_reducible exact head_Decode.mono _ _)
  | (with_reducible exact keepsakelaw04_awake.mono _)
  | (with_reducible exact keepsakeref04_Bytes.mono _ _ _)
  | (with_reducible exact keepsakeref04_Decode.mono _ _)
  | (with_reducible exact LeO.refl _)
  | (with_reducible exact LeO.none _)
  | (with_reducible refine LeO.ite ?_ ?_)
  | (with_reducible refine LeO.bind ?_ (fun _ => ?_))
  | exact ih0 _ _ _
  | exact crc_Sum.mono _ _
  | exact head_Decode.mono _ _
  | exact keepsakelaw04_awake.mono _
  | exact keepsakeref04_Bytes.mono _ _ _
  | exact keepsakeref04_Decode.mono _ _
  | exact LeO.none _
  | refine LeO.ite ?_ ?_
  | refine LeO.bind ?_ (fun _ => ?_)
set_option maxHeartbeats 8000000 in
set_option maxRecDepth 100000 in
theorem keepsakelaw04_HeadReads.calls (k : Nat) (A0 : Option Addr) (c0 : Nat) (l0 : List Int) (r : Bool) (w : World) (hG : Laid w) (hr0 : Kd.C (Kd.int .u8) w A0 l0.length l0) (hc0 : l0.length ≤ c0) (h : keepsakelaw04_HeadReads.f k l0 = some r) :
 Calls Tryd.prog 4 #[.slice A0 l0.length c0] w fun e w' => e = .returned (.bool r) ∧ Below w.heap.size w w' := by
 have HG := Aside0.mk hG
 clear hG
 have hu27 := Tryd.underlying27
 have HR0 := Aside0.mk hr0
 have HC0 := Aside0.mk hc0
 clear hr0 hc0
 have HB := Aside0.mk (Below.refl w.heap.size w)
 have H : ((keepsakelaw04_awake.f k).bind fun t299 => (if (l0.length : Int) > 60 then (some t299) else ((head_Decode.f k l0).bind fun bt300 => ((keepsakeref04_Decode.f k l0).bind fun bt308 => (if ((!(bt300.1 == bt308.1) || (!(bt300.2.1 == bt308.2.1) || (!(bt300.2.2.1 == bt308.2.2.1)))) || (!(bt300.2.2.2.1 == bt308.2.2.2.1) || (!(bt300.2.2.2.2.1 == bt308.2.2.2.2.1) || (!(bt300.2.2.2.2.2.1 == bt308.2.2.2.2.2.1))))) = true then (keepsakelaw04_HeadReads.j0 k l0 t299 true) else (keepsakelaw04_HeadReads.j0 k l0 t299 (bt300.2.2.2.2.2.2 != bt308.2.2.2.2.2.2))))))) = some r := h
 clear h
 replace H := Option.bind_eq_some_iff.mp H
 obtain ⟨t299, A20, H⟩ := H
 replace H : (if (l0.length : Int) > 60 then (some t299) else ((head_Decode.f k l0).bind fun bt300 => ((keepsakeref04_Decode.f k l0).bind fun bt308 => (if ((!(bt300.1 == bt308.1) || (!(bt300.2.1 == bt308.2.1) || (!(bt300.2.2.1 == bt308.2.2.1)))) || (!(bt300.2.2.2.1 == bt308.2.2.2.1) || (!(bt300.2.2.2.2.1 == bt308.2.2.2.2.1) || (!(bt300.2.2.2.2.2.1 == bt308.2.2.2.2.2.1))))) = true then (keepsakelaw04_HeadReads.j0 k l0 t299 true) else (keepsakelaw04_HeadReads.j0 k l0 t299 (bt300.2.2.2.2.2.2 != bt308.2.2.2.2.2.2)))))) = some r := H
 have A2 := Aside0.mk A20
 clear A20
 by_cases c3 : (l0.length : Int) > 60
 · rw [if_pos c3] at H
   have c3b0 : decide (60 < (l0.length : Int)) = true := decide_eq_true c3
   have c3b1 : decide (60 < l0.length) = true := decide_eq_true (by omega)
   clear c3
   obtain rfl := Option.some.inj H
   go_enter Tryd.func4, Tryd.ntmps4
   go_wp2_with (first | ((with_reducible refine gate_callee (f := 9) rfl ?_); refine goesL_ (some 9) rfl rfl Tryd.func9 (by kernel_rfl) rfl #[] rfl (by (try simp only [List.map_toArray, List.map_cons, List.map_nil]); first | done | rfl | (simp only [List.length_drop, List.length_take]; rfl)) ?_; (with_reducible refine (keepsakelaw04_awake.calls k  t299 _ ?sideG A2.out).mono ?_); (case sideG => repeat (first | exact Laid.below HG.out HB.out | exact HG.out | (with_reducible refine Laid.alloc ?_ _) | (with_reducible refine Laid.drewN ?_ _) | (with_reducible refine Laid.drew ?_))); rintro e w4 ⟨rfl, hb⟩; refine ⟨_, rfl, ?_⟩; have n0_ := Aside0.mk (below_step (by repeat (first | (with_reducible first | exact HB.out | apply below_alloc | apply pw_below_drewN | apply below_drew1) | exact HB.out)) hb); clear HB; have HB := n0_; clear n0_; (try clear hb); (try clear hb2); (try clear hk); (try clear hi)))
   go_ret
   exact ⟨by first | rfl | (simp [errW_none, errW_some] <;> rfl) | (simp [*, errW_none, errW_some] <;> rfl), by repeat (first | (with_reducible first | exact HB.out | apply below_alloc | apply pw_below_drewN | apply below_drew1) | exact HB.out)⟩
 · rw [if_neg c3] at H
   have c3b0 : decide (60 < (l0.length : Int)) = false := decide_eq_false c3
   have c3b1 : decide (60 < l0.length) = false := decide_eq_false (by omega)
   clear c3
   replace H := Option.bind_eq_some_iff.mp H
   obtain ⟨⟨t300, t301, t302, t303, t304, t305, t306⟩, A50, H⟩ := H
   replace H : ((keepsakeref04_Decode.f k l0).bind fun bt308 => (if ((!(t300 == bt308.1) || (!(t301 == bt308.2.1) || (!(t302 == bt308.2.2.1)))) || (!(t303 == bt308.2.2.2.1) || (!(t304 == bt308.2.2.2.2.1) || (!(t305 == bt308.2.2.2.2.2.1))))) = true then (keepsakelaw04_HeadReads.j0 k l0 t299 true) else (keepsakelaw04_HeadReads.j0 k l0 t299 (t306 != bt308.2.2.2.2.2.2)))) = some r := H
   have A5 := Aside0.mk A50
   clear A50
   replace H := Option.bind_eq_some_iff.mp H
   obtain ⟨⟨t308, t309, t310, t311, t312, t313, t314⟩, A60, H⟩ := H
   replace H : (if ((!(t300 == t308) || (!(t301 == t309) || (!(t302 == t310)))) || (!(t303 == t311) || (!(t304 == t312) || (!(t305 == t313))))) = true then (keepsakelaw04_HeadReads.j0 k l0 t299 true) else (keepsakelaw04_HeadReads.j0 k l0 t299 (t306 != t314))) = some r := H
   have A6 := Aside0.mk A60
   clear A60
   have HC7 := Aside0.mk H
   clear H
   go_enter Tryd.func4, Tryd.ntmps4
   go_upto_region 6 with (first | ((with_reducible refine gate_callee (f := 9) rfl ?_); refine goesL_ (some 9) rfl rfl Tryd.func9 (by kernel_rfl) rfl #[] rfl (by (try simp only [List.map_toArray, List.map_cons, List.map_nil]); first | done | rfl | (simp only [List.length_drop, List.length_take]; rfl)) ?_; (with_reducible refine (keepsakelaw04_awake.calls k  t299 _ ?sideG A2.out).mono ?_); (case sideG => repeat (first | exact Laid.below HG.out HB.out | exact HG.out | (with_reducible refine Laid.alloc ?_ _) | (with_reducible refine Laid.drewN ?_ _) | (with_reducible refine Laid.drew ?_))); rintro e w8 ⟨rfl, hb⟩; refine ⟨_, rfl, ?_⟩; have n0_ := Aside0.mk (below_step (by repeat (first | (with_reducible first | exact HB.out | apply below_alloc | apply pw_below_drewN | apply below_drew1) | exact HB.out)) hb); clear HB; have HB := n0_; clear n0_; (try clear hb); (try clear hb2); (try clear hk); (try clear hi)) | ((with_reducible refine gate_callee (f := 13) rfl ?_); refine goesL_ (some 16) rfl rfl Tryd.func13 (by kernel_rfl) rfl #[.slice A0 l0.length c0] rfl (by (try simp only [List.map_toArray, List.map_cons, List.map_nil]); first | done | rfl | (simp only [List.length_drop, List.length_take]; rfl)) ?_; (with_reducible refine (head_Decode.calls k _ _ l0 t300 t301 t302 t303 t304 t305 t306 _ ?sideG ?side1 ?side2 A5.out).mono ?_); (case sideG => repeat (first | exact Laid.below HG.out HB.out | exact HG.out | (with_reducible refine Laid.alloc ?_ _) | (with_reducible refine Laid.drewN ?_ _) | (with_reducible refine Laid.drew ?_))); (case side1 => repeat (first | exact (Kd.C_below HR0.out HB.out) | (with_reducible refine Kd.C_alloc ?_ _) | (with_reducible refine Kd.C_drewN ?_ _) | (with_reducible refine Kd.C_drew ?_))); (case side2 => exact HC0.out); rintro e w9 ⟨rfl, hb⟩; refine ⟨_, rfl, ?_⟩; have n0_ := Aside0.mk (below_step (by repeat (first | (with_reducible first | exact HB.out | apply below_alloc | apply pw_below_drewN | apply below_drew1) | exact HB.out)) hb); clear HB; have HB := n0_; clear n0_; (try clear hb); (try clear hb2); (try clear hk); (try clear hi)) | ((with_reducible refine gate_dst (N := 4) rfl ?_); refine box_event ?hg (N := 4) ?hd (cs := #[.int .i64 0, .int .i64 0, .int .i64 0, .int .i64 0, .int .u64 0, .int .u32 0]) (t := 27) ?hr ?_; (case hd => rfl); (case hg => rfl); (case hr => first | (go_simp; done) | (go_simp; rfl)); intro gb307 hg w10 hbox hb; have n0_ := Aside0.mk (below_step (by repeat (first | (with_reducible first | exact HB.out | apply below_alloc | apply pw_below_drewN | apply below_drew1) | exact HB.out)) hb); have n1_ := Aside0.mk (hbox); have n2_ := Aside0.mk ((by rw [hg]; exact (below_size (by repeat (first | (with_reducible first | exact HB.out | apply below_alloc | apply pw_below_drewN | apply below_drew1) | exact HB.out))) : w.heap.size ≤ gb307)); have n3_ := Aside0.mk ((by rw [hg]; exact (below_size (by repeat (first | (with_reducible first | exact HB.out | apply below_alloc | apply pw_below_drewN | apply below_drew1) | exact HB.out))) : w.heap.size ≤ gb307)); clear HB; have HB := n0_; have BK307 := n1_; have GW307 := n2_; have GE307 := n3_; clear n0_ n1_ n2_ n3_; clear hb hbox hg; have hcz11_0 : w10.cell? ⟨gb307, 0, none⟩ = some (.int .i64 0) := (blk_cell BK307.out 0).trans rfl; have hcz11_1 : w10.cell? ⟨gb307, 1, none⟩ = some (.int .i64 0) := (blk_cell BK307.out 1).trans rfl; have hcz11_2 : w10.cell? ⟨gb307, 2, none⟩ = some (.int .i64 0) := (blk_cell BK307.out 2).trans rfl; have hcz11_3 : w10.cell? ⟨gb307, 3, none⟩ = some (.int .i64 0) := (blk_cell BK307.out 3).trans rfl; have hcz11_4 : w10.cell? ⟨gb307, 4, none⟩ = some (.int .u64 0) := (blk_cell BK307.out 4).trans rfl; have hcz11_5 : w10.cell? ⟨gb307, 5, none⟩ = some (.int .u32 0) := (blk_cell BK307.out 5).trans rfl; have hfz11_0 := blk_frozen BK307.out 0; have hfz11_1 := blk_frozen BK307.out 1; have hfz11_2 := blk_frozen BK307.out 2; have hfz11_3 := blk_frozen BK307.out 3; have hfz11_4 := blk_frozen BK307.out 4; have hfz11_5 := blk_frozen BK307.out 5) | ((with_reducible refine gate_callee (f := 14) rfl ?_); refine goesL_ (some 21) rfl rfl Tryd.func14 (by kernel_rfl) rfl #[.slice A0 l0.length c0] rfl (by (try simp only [List.map_toArray, List.map_cons, List.map_nil]); first | done | rfl | (simp only [List.length_drop, List.length_take]; rfl)) ?_; (with_reducible refine (keepsakeref04_Decode.calls k _ _ l0 t308 t309 t310 t311 t312 t313 t314 _ ?side1 ?side2 A6.out).mono ?_); (case side1 => exact Kd.C_below HR0.out (by repeat (first | (with_reducible first | exact HB.out | apply below_alloc | apply pw_below_drewN | apply below_drew1 | refine below_set ?_ GE307.out) | exact HB.out))); (case side2 => exact HC0.out); rintro e w12 ⟨rfl, hb⟩; refine ⟨_, rfl, ?_⟩; have n0_ := Aside0.mk (blk_below (g := gb307) (o := .cells #[.int .i64 t300, .int .i64 t301, .int .i64 t302, .int .i64 t303, .int .u64 t304, .int .u32 t305] 27 (0, 0)) (by (with_reducible repeat (first | refine blk_drewN ?_ _ | refine blk_drew ?_ | refine blk_alloc ?_ _)); refine blk_put (cs := #[.int .i64 t300, .int .i64 t301, .int .i64 t302, .int .i64 t303, .int .u64 t304, .int .u32 0]) ?_ 5 _ rfl; (with_reducible repeat (first | refine blk_drewN ?_ _ | refine blk_drew ?_ | refine blk_alloc ?_ _)); refine blk_put (cs := #[.int .i64 t300, .int .i64 t301, .int .i64 t302, .int .i64 t303, .int .u64 0, .int .u32 0]) ?_ 4 _ rfl; (with_reducible repeat (first | refine blk_drewN ?_ _ | refine blk_drew ?_ | refine blk_alloc ?_ _)); refine blk_put (cs := #[.int .i64 t300, .int .i64 t301, .int .i64 t302, .int .i64 0, .int .u64 0, .int .u32 0]) ?_ 3 _ rfl; (with_reducible repeat (first | refine blk_drewN ?_ _ | refine blk_drew ?_ | refine blk_alloc ?_ _)); refine blk_put (cs := #[.int .i64 t300, .int .i64 t301, .int .i64 0, .int .i64 0, .int .u64 0, .int .u32 0]) ?_ 2 _ rfl; (with_reducible repeat (first | refine blk_drewN ?_ _ | refine blk_drew ?_ | refine blk_alloc ?_ _)); refine blk_put (cs := #[.int .i64 t300, .int .i64 0, .int .i64 0, .int .i64 0, .int .u64 0, .int .u32 0]) ?_ 1 _ rfl; (with_reducible repeat (first | refine blk_drewN ?_ _ | refine blk_drew ?_ | refine blk_alloc ?_ _)); refine blk_put (cs := #[.int .i64 0, .int .i64 0, .int .i64 0, .int .i64 0, .int .u64 0, .int .u32 0]) ?_ 0 _ rfl; (with_reducible repeat (first | refine blk_drewN ?_ _ | refine blk_drew ?_ | refine blk_alloc ?_ _)); exact BK307.out) hb); have n1_ := Aside0.mk (below_step (by repeat (first | (with_reducible first | exact HB.out | apply below_alloc | apply pw_below_drewN | apply below_drew1 | refine below_set ?_ GE307.out) | exact HB.out)) hb); clear BK307; clear HB; have BK307 := n0_; have HB := n1_; clear n0_ n1_; (try clear hb); (try clear hb2); (try clear hk); (try clear hi)) | ((with_reducible refine gate_dst (N := 6) rfl ?_); refine box_event ?hg (N := 6) ?hd (cs := #[.int .i64 0, .int .i64 0, .int .i64 0, .int .i64 0, .int .u64 0, .int .u32 0]) (t := 27) ?hr ?_; (case hd => rfl); (case hg => rfl); (case hr => first | (go_simp; done) | (go_simp; rfl)); intro gb315 hg w13 hbox hb; have n0_ := Aside0.mk (blk_below (g := gb307) (o := .cells #[.int .i64 t300, .int .i64 t301, .int .i64 t302, .int .i64 t303, .int .u64 t304, .int .u32 t305] 27 (0, 0)) (by (with_reducible repeat (first | refine blk_drewN ?_ _ | refine blk_drew ?_ | refine blk_alloc ?_ _)); exact BK307.out) hb); have n1_ := Aside0.mk (below_step (by repeat (first | (with_reducible first | exact HB.out | apply below_alloc | apply pw_below_drewN | apply below_drew1 | refine below_set ?_ GE307.out) | exact HB.out)) hb); have n2_ := Aside0.mk (hbox); have n3_ := Aside0.mk ((by rw [hg]; exact (below_size (by repeat (first | (with_reducible first | exact HB.out | apply below_alloc | apply pw_below_drewN | apply below_drew1 | refine below_set ?_ GE307.out) | exact HB.out))) : w.heap.size ≤ gb315)); have n4_ := Aside0.mk ((by rw [hg]; exact (below_size (by repeat (first | (with_reducible first | exact HB.out | apply below_alloc | apply pw_below_drewN | apply below_drew1 | refine below_set ?_ GE307.out) | exact HB.out))) : w.heap.size ≤ gb315)); have n5_ := Aside0.mk ((by rw [hg]; exact Nat.ne_of_lt (blk_lt (g := gb307) (o := .cells #[.int .i64 t300, .int .i64 t301, .int .i64 t302, .int .i64 t303, .int .u64 t304, .int .u32 t305] 27 (0, 0)) (by (with_reducible repeat (first | refine blk_drewN ?_ _ | refine blk_drew ?_ | refine blk_alloc ?_ _)); exact BK307.out)) : gb307 ≠ gb315)); have n6_ := Aside0.mk ((by rw [hg]; exact Nat.ne_of_gt (blk_lt (g := gb307) (o := .cells #[.int .i64 t300, .int .i64 t301, .int .i64 t302, .int .i64 t303, .int .u64 t304, .int .u32 t305] 27 (0, 0)) (by (with_reducible repeat (first | refine blk_drewN ?_ _ | refine blk_drew ?_ | refine blk_alloc ?_ _)); exact BK307.out)) : gb315 ≠ gb307)); clear BK307; clear HB; have BK307 := n0_; have HB := n1_; have BK315 := n2_; have GW315 := n3_; have GE315 := n4_; have NB307_315 := n5_; have NB315_307 := n6_; clear n0_ n1_ n2_ n3_ n4_ n5_ n6_; clear hb hbox hg; have hnb14 := NB315_307.out; have hnc14 := NB307_315.out; have hcz15_0 : w13.cell? ⟨gb315, 0, none⟩ = some (.int .i64 0) := (blk_cell BK315.out 0).trans rfl; have hcz15_1 : w13.cell? ⟨gb315, 1, none⟩ = some (.int .i64 0) := (blk_cell BK315.out 1).trans rfl; have hcz15_2 : w13.cell? ⟨gb315, 2, none⟩ = some (.int .i64 0) := (blk_cell BK315.out 2).trans rfl; have hcz15_3 : w13.cell? ⟨gb315, 3, none⟩ = some (.int .i64 0) := (blk_cell BK315.out 3).trans rfl; have hcz15_4 : w13.cell? ⟨gb315, 4, none⟩ = some (.int .u64 0) := (blk_cell BK315.out 4).trans rfl; have hcz15_5 : w13.cell? ⟨gb315, 5, none⟩ = some (.int .u32 0) := (blk_cell BK315.out 5).trans rfl; have hfz15_0 := blk_frozen BK315.out 0; have hfz15_1 := blk_frozen BK315.out 1; have hfz15_2 := blk_frozen BK315.out 2; have hfz15_3 := blk_frozen BK315.out 3; have hfz15_4 := blk_frozen BK315.out 4; have hfz15_5 := blk_frozen BK315.out 5))
   (try simp only [Act.put, List.setIfInBounds_toArray, List.set_cons_zero, List.set_cons_succ])
   go_cut [31] (fun v31 wc => ∃ (kq : Nat) (x31_6 : Bool), v31 = .bool x31_6 ∧ Aside0 (keepsakelaw04_HeadReads.j0 kq l0 t299 x31_6 = some r) ∧ Aside0 (kq ≤ k) ∧ Aside0 (wc.heap[gb307]? = some (.cells #[.int .i64 t300, .int .i64 t301, .int .i64 t302, .int .i64 t303, .int .u64 t304, .int .u32 t305] 27 (0, 0))) ∧ Aside0 (wc.heap[gb315]? = some (.cells #[.int .i64 t308, .int .i64 t309, .int .i64 t310, .int .i64 t311, .int .u64 t312, .int .u32 t313] 27 (0, 0))) ∧ Aside0 (Below w.heap.size w wc))
   case first =>
    have H := HC7.out
    clear HC7
    by_cases c16 : ((!(t300 == t308) || (!(t301 == t309) || (!(t302 == t310)))) || (!(t303 == t311) || (!(t304 == t312) || (!(t305 == t313))))) = true
    · rw [if_pos c16] at H
      have c16b0 : ((!(t300 == t308) || (!(t301 == t309) || (!(t302 == t310)))) || (!(t303 == t311) || (!(t304 == t312) || (!(t305 == t313))))) = true := c16
      clear c16
      (first | rw [c16b0] | (simp only [i64_w, i32_w]; rw [c16b0]) | skip)
      have H' := Aside0.mk H
      clear H
      have hnb17 := NB307_315.out
      have hnc17 := NB315_307.out
      have hcz18_0 : w13.cell? ⟨gb307, 0, none⟩ = some (.int .i64 t300) := (blk_cell BK307.out 0).trans rfl
      have hcz18_1 : w13.cell? ⟨gb307, 1, none⟩ = some (.int .i64 t301) := (blk_cell BK307.out 1).trans rfl
      have hcz18_2 : w13.cell? ⟨gb307, 2, none⟩ = some (.int .i64 t302) := (blk_cell BK307.out 2).trans rfl
      have hcz18_3 : w13.cell? ⟨gb307, 3, none⟩ = some (.int .i64 t303) := (blk_cell BK307.out 3).trans rfl
      have hcz18_4 : w13.cell? ⟨gb307, 4, none⟩ = some (.int .u64 t304) := (blk_cell BK307.out 4).trans rfl
      have hcz18_5 : w13.cell? ⟨gb307, 5, none⟩ = some (.int .u32 t305) := (blk_cell BK307.out 5).trans rfl
      have hfz18_0 := blk_frozen BK307.out 0
      have hfz18_1 := blk_frozen BK307.out 1
      have hfz18_2 := blk_frozen BK307.out 2
      have hfz18_3 := blk_frozen BK307.out 3
      have hfz18_4 := blk_frozen BK307.out 4
      have hfz18_5 := blk_frozen BK307.out 5
      have hcz19_0 : w13.cell? ⟨gb315, 0, none⟩ = some (.int .i64 0) := (blk_cell BK315.out 0).trans rfl
      have hcz19_1 : w13.cell? ⟨gb315, 1, none⟩ = some (.int .i64 0) := (blk_cell BK315.out 1).trans rfl
      have hcz19_2 : w13.cell? ⟨gb315, 2, none⟩ = some (.int .i64 0) := (blk_cell BK315.out 2).trans rfl
      have hcz19_3 : w13.cell? ⟨gb315, 3, none⟩ = some (.int .i64 0) := (blk_cell BK315.out 3).trans rfl
      have hcz19_4 : w13.cell? ⟨gb315, 4, none⟩ = some (.int .u64 0) := (blk_cell BK315.out 4).trans rfl
      have hcz19_5 : w13.cell? ⟨gb315, 5, none⟩ = some (.int .u32 0) := (blk_cell BK315.out 5).trans rfl
      have hfz19_0 := blk_frozen BK315.out 0
      have hfz19_1 := blk_frozen BK315.out 1
      have hfz19_2 := blk_frozen BK315.out 2
      have hfz19_3 := blk_frozen BK315.out 3
      have hfz19_4 := blk_frozen BK315.out 4
      have hfz19_5 := blk_frozen BK315.out 5
      go_wp2
      go_meet
      case rel => exact ⟨_, (true), (by first | rfl | (simp; done) | (simp [*]; done) | (simp; omega)), H', ⟨by first | omega | exact Nat.le_refl _⟩, ⟨by (with_reducible repeat (first | refine blk_drewN ?_ _ | refine blk_drew ?_ | refine blk_alloc ?_ _)); refine blk_far ?_ NB307_315.out _; (with_reducible repeat (first | refine blk_drewN ?_ _ | refine blk_drew ?_ | refine blk_alloc ?_ _)); refine blk_far ?_ NB307_315.out _; (with_reducible repeat (first | refine blk_drewN ?_ _ | refine blk_drew ?_ | refine blk_alloc ?_ _)); refine blk_far ?_ NB307_315.out _; (with_reducible repeat (first | refine blk_drewN ?_ _ | refine blk_drew ?_ | refine blk_alloc ?_ _)); refine blk_far ?_ NB307_315.out _; (with_reducible repeat (first | refine blk_drewN ?_ _ | refine blk_drew ?_ | refine blk_alloc ?_ _)); refine blk_far ?_ NB307_315.out _; (with_reducible repeat (first | refine blk_drewN ?_ _ | refine blk_drew ?_ | refine blk_alloc ?_ _)); refine blk_far ?_ NB307_315.out _; (with_reducible repeat (first | refine blk_drewN ?_ _ | refine blk_drew ?_ | refine blk_alloc ?_ _)); exact BK307.out⟩, ⟨by (with_reducible repeat (first | refine blk_drewN ?_ _ | refine blk_drew ?_ | refine blk_alloc ?_ _)); refine blk_put (cs := #[.int .i64 t308, .int .i64 t309, .int .i64 t310, .int .i64 t311, .int .u64 t312, .int .u32 0]) ?_ 5 _ rfl; (with_reducible repeat (first | refine blk_drewN ?_ _ | refine blk_drew ?_ | refine blk_alloc ?_ _)); refine blk_put (cs := #[.int .i64 t308, .int .i64 t309, .int .i64 t310, .int .i64 t311, .int .u64 0, .int .u32 0]) ?_ 4 _ rfl; (with_reducible repeat (first | refine blk_drewN ?_ _ | refine blk_drew ?_ | refine blk_alloc ?_ _)); refine blk_put (cs := #[.int .i64 t308, .int .i64 t309, .int .i64 t310, .int .i64 0, .int .u64 0, .int .u32 0]) ?_ 3 _ rfl; (with_reducible repeat (first | refine blk_drewN ?_ _ | refine blk_drew ?_ | refine blk_alloc ?_ _)); refine blk_put (cs := #[.int .i64 t308, .int .i64 t309, .int .i64 0, .int .i64 0, .int .u64 0, .int .u32 0]) ?_ 2 _ rfl; (with_reducible repeat (first | refine blk_drewN ?_ _ | refine blk_drew ?_ | refine blk_alloc ?_ _)); refine blk_put (cs := #[.int .i64 t308, .int .i64 0, .int .i64 0, .int .i64 0, .int .u64 0, .int .u32 0]) ?_ 1 _ rfl; (with_reducible repeat (first | refine blk_drewN ?_ _ | refine blk_drew ?_ | refine blk_alloc ?_ _)); refine blk_put (cs := #[.int .i64 0, .int .i64 0, .int .i64 0, .int .i64 0, .int .u64 0, .int .u32 0]) ?_ 0 _ rfl; (with_reducible repeat (first | refine blk_drewN ?_ _ | refine blk_drew ?_ | refine blk_alloc ?_ _)); exact BK315.out⟩, ⟨by repeat (first | (with_reducible first | exact HB.out | apply below_alloc | apply pw_below_drewN | apply below_drew1 | refine below_set ?_ GE307.out | refine below_set ?_ GE315.out) | exact HB.out)⟩⟩
    · rw [if_neg c16] at H
      have c16b0 : ((!(t300 == t308) || (!(t301 == t309) || (!(t302 == t310)))) || (!(t303 == t311) || (!(t304 == t312) || (!(t305 == t313))))) = false := by simpa using c16
      clear c16
      (first | rw [c16b0] | (simp only [i64_w, i32_w]; rw [c16b0]) | skip)
      have H' := Aside0.mk H
      clear H
      have hnb20 := NB307_315.out
      have hnc20 := NB315_307.out
      have hcz21_0 : w13.cell? ⟨gb307, 0, none⟩ = some (.int .i64 t300) := (blk_cell BK307.out 0).trans rfl
      have hcz21_1 : w13.cell? ⟨gb307, 1, none⟩ = some (.int .i64 t301) := (blk_cell BK307.out 1).trans rfl
      have hcz21_2 : w13.cell? ⟨gb307, 2, none⟩ = some (.int .i64 t302) := (blk_cell BK307.out 2).trans rfl
      have hcz21_3 : w13.cell? ⟨gb307, 3, none⟩ = some (.int .i64 t303) := (blk_cell BK307.out 3).trans rfl
      have hcz21_4 : w13.cell? ⟨gb307, 4, none⟩ = some (.int .u64 t304) := (blk_cell BK307.out 4).trans rfl
      have hcz21_5 : w13.cell? ⟨gb307, 5, none⟩ = some (.int .u32 t305) := (blk_cell BK307.out 5).trans rfl
      have hfz21_0 := blk_frozen BK307.out 0
      have hfz21_1 := blk_frozen BK307.out 1
      have hfz21_2 := blk_frozen BK307.out 2
      have hfz21_3 := blk_frozen BK307.out 3
      have hfz21_4 := blk_frozen BK307.out 4
      have hfz21_5 := blk_frozen BK307.out 5
      have hcz22_0 : w13.cell? ⟨gb315, 0, none⟩ = some (.int .i64 0) := (blk_cell BK315.out 0).trans rfl
      have hcz22_1 : w13.cell? ⟨gb315, 1, none⟩ = some (.int .i64 0) := (blk_cell BK315.out 1).trans rfl
      have hcz22_2 : w13.cell? ⟨gb315, 2, none⟩ = some (.int .i64 0) := (blk_cell BK315.out 2).trans rfl
      have hcz22_3 : w13.cell? ⟨gb315, 3, none⟩ = some (.int .i64 0) := (blk_cell BK315.out 3).trans rfl
      have hcz22_4 : w13.cell? ⟨gb315, 4, none⟩ = some (.int .u64 0) := (blk_cell BK315.out 4).trans rfl
      have hcz22_5 : w13.cell? ⟨gb315, 5, none⟩ = some (.int .u32 0) := (blk_cell BK315.out 5).trans rfl
      have hfz22_0 := blk_frozen BK315.out 0
      have hfz22_1 := blk_frozen BK315.out 1
      have hfz22_2 := blk_frozen BK315.out 2
      have hfz22_3 := blk_frozen BK315.out 3
      have hfz22_4 := blk_frozen BK315.out 4
      have hfz22_5 := blk_frozen BK315.out 5
      go_wp2
      go_meet
      case rel => exact ⟨_, ((t306 != t314)), (by first | rfl | (simp; done) | (simp [*]; done) | (simp; omega)), H', ⟨by first | omega | exact Nat.le_refl _⟩, ⟨by (with_reducible repeat (first | refine blk_drewN ?_ _ | refine blk_drew ?_ | refine blk_alloc ?_ _)); refine blk_far ?_ NB307_315.out _; (with_reducible repeat (first | refine blk_drewN ?_ _ | refine blk_drew ?_ | refine blk_alloc ?_ _)); refine blk_far ?_ NB307_315.out _; (with_reducible repeat (first | refine blk_drewN ?_ _ | refine blk_drew ?_ | refine blk_alloc ?_ _)); refine blk_far ?_ NB307_315.out _; (with_reducible repeat (first | refine blk_drewN ?_ _ | refine blk_drew ?_ | refine blk_alloc ?_ _)); refine blk_far ?_ NB307_315.out _; (with_reducible repeat (first | refine blk_drewN ?_ _ | refine blk_drew ?_ | refine blk_alloc ?_ _)); refine blk_far ?_ NB307_315.out _; (with_reducible repeat (first | refine blk_drewN ?_ _ | refine blk_drew ?_ | refine blk_alloc ?_ _)); refine blk_far ?_ NB307_315.out _; (with_reducible repeat (first | refine blk_drewN ?_ _ | refine blk_drew ?_ | refine blk_alloc ?_ _)); exact BK307.out⟩, ⟨by (with_reducible repeat (first | refine blk_drewN ?_ _ | refine blk_drew ?_ | refine blk_alloc ?_ _)); refine blk_put (cs := #[.int .i64 t308, .int .i64 t309, .int .i64 t310, .int .i64 t311, .int .u64 t312, .int .u32 0]) ?_ 5 _ rfl; (with_reducible repeat (first | refine blk_drewN ?_ _ | refine blk_drew ?_ | refine blk_alloc ?_ _)); refine blk_put (cs := #[.int .i64 t308, .int .i64 t309, .int .i64 t310, .int .i64 t311, .int .u64 0, .int .u32 0]) ?_ 4 _ rfl; (with_reducible repeat (first | refine blk_drewN ?_ _ | refine blk_drew ?_ | refine blk_alloc ?_ _)); refine blk_put (cs := #[.int .i64 t308, .int .i64 t309, .int .i64 t310, .int .i64 0, .int .u64 0, .int .u32 0]) ?_ 3 _ rfl; (with_reducible repeat (first | refine blk_drewN ?_ _ | refine blk_drew ?_ | refine blk_alloc ?_ _)); refine blk_put (cs := #[.int .i64 t308, .int .i64 t309, .int .i64 0, .int .i64 0, .int .u64 0, .int .u32 0]) ?_ 2 _ rfl; (with_reducible repeat (first | refine blk_drewN ?_ _ | refine blk_drew ?_ | refine blk_alloc ?_ _)); refine blk_put (cs := #[.int .i64 t308, .int .i64 0, .int .i64 0, .int .i64 0, .int .u64 0, .int .u32 0]) ?_ 1 _ rfl; (with_reducible repeat (first | refine blk_drewN ?_ _ | refine blk_drew ?_ | refine blk_alloc ?_ _)); refine blk_put (cs := #[.int .i64 0, .int .i64 0, .int .i64 0, .int .i64 0, .int .u64 0, .int .u32 0]) ?_ 0 _ rfl; (with_reducible repeat (first | refine blk_drewN ?_ _ | refine blk_drew ?_ | refine blk_alloc ?_ _)); exact BK315.out⟩, ⟨by repeat (first | (with_reducible first | exact HB.out | apply below_alloc | apply pw_below_drewN | apply below_drew1 | refine below_set ?_ GE307.out | refine below_set ?_ GE315.out) | exact HB.out)⟩⟩
   case rest =>
    clear HC7
    try clear c1
    try clear c2
    try clear p2
    try clear c3
    try clear c3b0
    try clear c3b1
    try clear c4
    try clear c9
    try clear c13
    try clear c14
    try clear c16
    try clear c16b0
    try clear c17
    try clear c20
    try clear hcz11_0
    try clear hcz11_1
    try clear hcz11_2
    try clear hcz11_3
    try clear hcz11_4
    try clear hcz11_5
    try clear hcz15_0
    try clear hcz15_1
    try clear hcz15_2
    try clear hcz15_3
    try clear hcz15_4
    try clear hcz15_5
    try clear hcz18_0
    try clear hcz18_1
    try clear hcz18_2
    try clear hcz18_3
    try clear hcz18_4
    try clear hcz18_5
    try clear hcz19_0
    try clear hcz19_1
    try clear hcz19_2
    try clear hcz19_3
    try clear hcz19_4
    try clear hcz19_5
    try clear hcz21_0
    try clear hcz21_1
    try clear hcz21_2
    try clear hcz21_3
    try clear hcz21_4
    try clear hcz21_5
    try clear hcz22_0
    try clear hcz22_1
    try clear hcz22_2
    try clear hcz22_3
    try clear hcz22_4
    try clear hcz22_5
    try clear hfz11_0
    try clear hfz11_1
    try clear hfz11_2
    try clear hfz11_3
    try clear hfz11_4
    try clear hfz11_5
    try clear hfz15_0
    try clear hfz15_1
    try clear hfz15_2
    try clear hfz15_3
    try clear hfz15_4
    try clear hfz15_5
    try clear hfz18_0
    try clear hfz18_1
    try clear hfz18_2
    try clear hfz18_3
    try clear hfz18_4
    try clear hfz18_5
    try clear hfz19_0
    try clear hfz19_1
    try clear hfz19_2
    try clear hfz19_3
    try clear hfz19_4
    try clear hfz19_5
    try clear hfz21_0
    try clear hfz21_1
    try clear hfz21_2
    try clear hfz21_3
    try clear hfz21_4
    try clear hfz21_5
    try clear hfz22_0
    try clear hfz22_1
    try clear hfz22_2
    try clear hfz22_3
    try clear hfz22_4
    try clear hfz22_5
    obtain ⟨kq, x31_6, rfl, HA, HJ6, BK307, BK315, HB⟩ := hcut
    cases kq with
    | zero => exact absurd HA.out (by simp [keepsakelaw04_HeadReads.j0])
    | succ kj6 =>
     have H := HA.out
     clear HA
     simp only [keepsakelaw04_HeadReads.j0] at H
     by_cases c23 : x31_6 = true
     · subst c23
       have H1 : (none) = some r := by rw [if_pos rfl] at H; exact H
       clear H
       have H := H1
       clear H1
       exact absurd H (by simp)
     · replace c23 := Bool.eq_false_iff.mpr c23
       subst c23
       have H1 : (if (l0.length : Int) < 24 then (some t299) else ((some (([] : List Int) : List Int)).bind fun y316 => (if 24 ≤ (l0.length : Int) then (if y316.length + (l0.take 24).length < 140737488355328 then ((some (y316 ++ (l0.take 24) : List Int)).bind fun y320 => ((crc_Sum.f kj6 y320).bind fun t323 => ((keepsakeref04_Bytes.f kj6 (IntKind.u64.wrap (t323)) 4).bind fun t324 => (if y320.length + t324.length < 140737488355328 then ((some (y320 ++ t324 : List Int)).bind fun y327 => ((head_Decode.f kj6 y327).bind fun bt330 => ((keepsakeref04_Decode.f kj6 y327).bind fun bt337 => (if t299 = true then (if ((bt330.1 == bt337.1 && (bt330.2.1 == bt337.2.1 && (bt330.2.2.1 == bt337.2.2.1))) && (bt330.2.2.2.1 == bt337.2.2.2.1 && (bt330.2.2.2.2.1 == bt337.2.2.2.2.1 && (bt330.2.2.2.2.2.1 == bt337.2.2.2.2.2.1)))) = true then (some (bt330.2.2.2.2.2.2 == bt337.2.2.2.2.2.2)) else (none)) else (none))))) else (none))))) else (none)) else (none)))) = some r := by rw [if_neg (show ¬ (false = true) by decide)] at H; exact H
       clear H
       have H := H1
       clear H1
       by_cases c24 : (l0.length : Int) < 24
       · rw [if_pos c24] at H
         have c24b0 : decide ((l0.length : Int) < 24) = true := decide_eq_true c24
         have c24b1 : decide (l0.length < 24) = true := decide_eq_true (by omega)
         clear c24
         obtain rfl := Option.some.inj H
         go_wp2
         go_ret
         exact ⟨by first | rfl | (simp [errW_none, errW_some] <;> rfl) | (simp [*, errW_none, errW_some] <;> rfl), by repeat (first | (with_reducible first | exact HB.out | apply below_alloc | apply pw_below_drewN | apply below_drew1 | refine below_set ?_ GE307.out | refine below_set ?_ GE315.out) | exact HB.out)⟩
       · rw [if_neg c24] at H
         have c24b0 : decide ((l0.length : Int) < 24) = false := decide_eq_false c24
         have c24b1 : decide (l0.length < 24) = false := decide_eq_false (by omega)
         clear c24
         obtain ⟨y316, hy316⟩ : ∃ y_ : List Int, y_ = (([] : List Int)) := ⟨_, rfl⟩
         replace H : (if 24 ≤ (l0.length : Int) then (if y316.length + (l0.take 24).length < 140737488355328 then ((some (y316 ++ (l0.take 24) : List Int)).bind fun y320 => ((crc_Sum.f kj6 y320).bind fun t323 => ((keepsakeref04_Bytes.f kj6 (IntKind.u64.wrap (t323)) 4).bind fun t324 => (if y320.length + t324.length < 140737488355328 then ((some (y320 ++ t324 : List Int)).bind fun y327 => ((head_Decode.f kj6 y327).bind fun bt330 => ((keepsakeref04_Decode.f kj6 y327).bind fun bt337 => (if t299 = true then (if ((bt330.1 == bt337.1 && (bt330.2.1 == bt337.2.1 && (bt330.2.2.1 == bt337.2.2.1))) && (bt330.2.2.2.1 == bt337.2.2.2.1 && (bt330.2.2.2.2.1 == bt337.2.2.2.2.1 && (bt330.2.2.2.2.2.1 == bt337.2.2.2.2.2.1)))) = true then (some (bt330.2.2.2.2.2.2 == bt337.2.2.2.2.2.2)) else (none)) else (none))))) else (none))))) else (none)) else (none)) = some r := by first | (rw [hy316]; with_reducible exact H) | (have H2_ := (Option.bind_some _ _).symm.trans H; rw [hy316]; with_reducible exact H2_) | (have H2_ := (Option.bind_some _ _).symm.trans H; with_reducible exact H2_) | with_reducible exact H | (rw [hy316]; exact H) | exact H
         have Ny316 := Aside0.mk hy316
         clear hy316
         by_cases c25 : 24 ≤ (l0.length : Int)
         · rw [if_pos c25] at H
           have c25b0 := eq_true c25
           have c25b1 : decide (24 ≤ (l0.length : Int)) = true := decide_eq_true c25
           clear c25
           by_cases c26 : y316.length + (l0.take 24).length < 140737488355328
           · rw [if_pos c26] at H
             have LMc26 := Aside0.mk c26
             clear c26
             obtain ⟨y320, hy320⟩ : ∃ y_ : List Int, y_ = (y316 ++ (l0.take 24)) := ⟨_, rfl⟩
             replace H : ((crc_Sum.f kj6 y320).bind fun t323 => ((keepsakeref04_Bytes.f kj6 (IntKind.u64.wrap (t323)) 4).bind fun t324 => (if y320.length + t324.length < 140737488355328 then ((some (y320 ++ t324 : List Int)).bind fun y327 => ((head_Decode.f kj6 y327).bind fun bt330 => ((keepsakeref04_Decode.f kj6 y327).bind fun bt337 => (if t299 = true then (if ((bt330.1 == bt337.1 && (bt330.2.1 == bt337.2.1 && (bt330.2.2.1 == bt337.2.2.1))) && (bt330.2.2.2.1 == bt337.2.2.2.1 && (bt330.2.2.2.2.1 == bt337.2.2.2.2.1 && (bt330.2.2.2.2.2.1 == bt337.2.2.2.2.2.1)))) = true then (some (bt330.2.2.2.2.2.2 == bt337.2.2.2.2.2.2)) else (none)) else (none))))) else (none)))) = some r := by first | (rw [hy320]; with_reducible exact H) | (have H2_ := (Option.bind_some _ _).symm.trans H; rw [hy320]; with_reducible exact H2_) | (have H2_ := (Option.bind_some _ _).symm.trans H; with_reducible exact H2_) | with_reducible exact H | (rw [hy320]; exact H) | exact H
             have Ny320 := Aside0.mk hy320
             clear hy320
             replace H := Option.bind_eq_some_iff.mp H
             obtain ⟨t323, A270, H⟩ := H
             replace H : ((keepsakeref04_Bytes.f kj6 (IntKind.u64.wrap (t323)) 4).bind fun t324 => (if y320.length + t324.length < 140737488355328 then ((some (y320 ++ t324 : List Int)).bind fun y327 => ((head_Decode.f kj6 y327).bind fun bt330 => ((keepsakeref04_Decode.f kj6 y327).bind fun bt337 => (if t299 = true then (if ((bt330.1 == bt337.1 && (bt330.2.1 == bt337.2.1 && (bt330.2.2.1 == bt337.2.2.1))) && (bt330.2.2.2.1 == bt337.2.2.2.1 && (bt330.2.2.2.2.1 == bt337.2.2.2.2.1 && (bt330.2.2.2.2.2.1 == bt337.2.2.2.2.2.1)))) = true then (some (bt330.2.2.2.2.2.2 == bt337.2.2.2.2.2.2)) else (none)) else (none))))) else (none))) = some r := H
             have A27 := Aside0.mk A270
             clear A270
             replace H := Option.bind_eq_some_iff.mp H
             obtain ⟨t324, A280, H⟩ := H
             replace H : (if y320.length + t324.length < 140737488355328 then ((some (y320 ++ t324 : List Int)).bind fun y327 => ((head_Decode.f kj6 y327).bind fun bt330 => ((keepsakeref04_Decode.f kj6 y327).bind fun bt337 => (if t299 = true then (if ((bt330.1 == bt337.1 && (bt330.2.1 == bt337.2.1 && (bt330.2.2.1 == bt337.2.2.1))) && (bt330.2.2.2.1 == bt337.2.2.2.1 && (bt330.2.2.2.2.1 == bt337.2.2.2.2.1 && (bt330.2.2.2.2.2.1 == bt337.2.2.2.2.2.1)))) = true then (some (bt330.2.2.2.2.2.2 == bt337.2.2.2.2.2.2)) else (none)) else (none))))) else (none)) = some r := H
             have A28 := Aside0.mk A280
             clear A280
             by_cases c29 : y320.length + t324.length < 140737488355328
             · rw [if_pos c29] at H
               have LMc29 := Aside0.mk c29
               clear c29
               obtain ⟨y327, hy327⟩ : ∃ y_ : List Int, y_ = (y320 ++ t324) := ⟨_, rfl⟩
               replace H : ((head_Decode.f kj6 y327).bind fun bt330 => ((keepsakeref04_Decode.f kj6 y327).bind fun bt337 => (if t299 = true then (if ((bt330.1 == bt337.1 && (bt330.2.1 == bt337.2.1 && (bt330.2.2.1 == bt337.2.2.1))) && (bt330.2.2.2.1 == bt337.2.2.2.1 && (bt330.2.2.2.2.1 == bt337.2.2.2.2.1 && (bt330.2.2.2.2.2.1 == bt337.2.2.2.2.2.1)))) = true then (some (bt330.2.2.2.2.2.2 == bt337.2.2.2.2.2.2)) else (none)) else (none)))) = some r := by first | (rw [hy327]; with_reducible exact H) | (have H2_ := (Option.bind_some _ _).symm.trans H; rw [hy327]; with_reducible exact H2_) | (have H2_ := (Option.bind_some _ _).symm.trans H; with_reducible exact H2_) | with_reducible exact H | (rw [hy327]; exact H) | exact H
               have Ny327 := Aside0.mk hy327
               clear hy327
               replace H := Option.bind_eq_some_iff.mp H
               obtain ⟨⟨t330, t331, t332, t333, t334, t335, t336⟩, A300, H⟩ := H
               replace H : ((keepsakeref04_Decode.f kj6 y327).bind fun bt337 => (if t299 = true then (if ((t330 == bt337.1 && (t331 == bt337.2.1 && (t332 == bt337.2.2.1))) && (t333 == bt337.2.2.2.1 && (t334 == bt337.2.2.2.2.1 && (t335 == bt337.2.2.2.2.2.1)))) = true then (some (t336 == bt337.2.2.2.2.2.2)) else (none)) else (none))) = some r := H
               have A30 := Aside0.mk A300
               clear A300
               replace H := Option.bind_eq_some_iff.mp H
               obtain ⟨⟨t337, t338, t339, t340, t341, t342, t343⟩, A310, H⟩ := H
               replace H : (if t299 = true then (if ((t330 == t337 && (t331 == t338 && (t332 == t339))) && (t333 == t340 && (t334 == t341 && (t335 == t342)))) = true then (some (t336 == t343)) else (none)) else (none)) = some r := H
               have A31 := Aside0.mk A310
               clear A310
               by_cases c32 : t299 = true
               · subst c32
                 have H1 : (if ((t330 == t337 && (t331 == t338 && (t332 == t339))) && (t333 == t340 && (t334 == t341 && (t335 == t342)))) = true then (some (t336 == t343)) else (none)) = some r := by rw [if_pos rfl] at H; exact H
                 clear H
                 have H := H1
                 clear H1
                 by_cases c33 : ((t330 == t337 && (t331 == t338 && (t332 == t339))) && (t333 == t340 && (t334 == t341 && (t335 == t342)))) = true
                 · rw [if_pos c33] at H
                   have c33b0 : ((t330 == t337 && (t331 == t338 && (t332 == t339))) && (t333 == t340 && (t334 == t341 && (t335 == t342)))) = true := c33
                   clear c33
                   obtain rfl := Option.some.inj H
                   go_wp2_with (first | ((with_reducible refine gate_dst (N := 36) rfl ?_); refine Kd.R_lit (Kd.int .u8) _ 5 ?hg (N := 36) ?hd (xs := ([] : List Int)) (inner := []) (ok := fun _ => True) (okp := fun _ => True) ?hr ?hp (fun _ hk => hk) trivial (Below.refl _ _) (Nat.le_refl _) (by simp) ?_; (case hd => rfl); (case hg => rfl); (case hr => first | (go_simp; done) | (go_simp; rfl)); (case hp => exact (Reps.none _ _)); intro v317 w34 ho35 hb hg_ hnew_; clear hg_ hnew_; (first | rw [← Ny316.out] at ho35 | (simp only [Int.reduceToNat] at ho35; rw [← Ny316.out] at ho35)); have n0_ := Aside0.mk (Kd.R_lower ho35 (below_size (by repeat (first | (with_reducible first | exact HB.out | apply below_alloc | apply pw_below_drewN | apply below_drew1 | refine below_set ?_ GE307.out | refine below_set ?_ GE315.out) | exact HB.out)))); have n1_ := Aside0.mk (blk_below (g := gb307) (o := .cells #[.int .i64 t300, .int .i64 t301, .int .i64 t302, .int .i64 t303, .int .u64 t304, .int .u32 t305] 27 (0, 0)) (by (with_reducible repeat (first | refine blk_drewN ?_ _ | refine blk_drew ?_ | refine blk_alloc ?_ _)); exact BK307.out) hb); have n2_ := Aside0.mk (blk_below (g := gb315) (o := .cells #[.int .i64 t308, .int .i64 t309, .int .i64 t310, .int .i64 t311, .int .u64 t312, .int .u32 t313] 27 (0, 0)) (by (with_reducible repeat (first | refine blk_drewN ?_ _ | refine blk_drew ?_ | refine blk_alloc ?_ _)); exact BK315.out) hb); have n3_ := Aside0.mk (below_step (by repeat (first | (with_reducible first | exact HB.out | apply below_alloc | apply pw_below_drewN | apply below_drew1 | refine below_set ?_ GE307.out | refine below_set ?_ GE315.out) | exact HB.out)) hb); clear BK307; clear BK315; clear HB; have HO318 := n0_; have BK307 := n1_; have BK315 := n2_; have HB := n3_; clear n0_ n1_ n2_ n3_; clear hb ho35; obtain ⟨i036, hi036, _, hsz36, _⟩ := info_parts info5; obtain ⟨hcut36, hA36, hC36⟩ := print_take_of (P := Tryd.prog) (Value.int .u8) 0 29 5 .i64 Tryd.underlying29 hi036 hsz36 A0 c0 l0 24 (by omega) (of_decide_eq_true (by first | (with_reducible assumption) | assumption)) HC0.out; have HR319 := Aside0.mk (Kd.C_of_reads (h1 := fun _ => rfl) (hA36 _ (Kd.reads_of_C HR0.out))); have HC319 := Aside0.mk hC36; clear hA36 hC36 hi036 hsz36) | ((with_reducible refine gate_builtin (b := .append) (xs := #[.tmp 36, .tmp 38]) rfl ?_); at_builtin; refine Kd.R_append_rows (Kd.int .u8) (w0 := w) w.heap.size rfl (.tmp 36) (.tmp 38) 29 5 (.int .u8 0) 1 rfl Tryd.underlying29 info5 rfl (by decide) (by omega) v317 y316 (l0.take 24) _ _ _ (fun _ => True) (fun _ => False) rfl rfl ?aO ?aR (fun _ _ h => h) (fun _ h => h.elim) ?aF ?aB ?aS ?aL ?_; (case aR => first | (rw [← List.length_take]; (repeat (first | exact (Kd.C_below HR319.out HB.out) | (with_reducible refine Kd.C_alloc ?_ _) | (with_reducible refine Kd.C_drewN ?_ _) | (with_reducible refine Kd.C_drew ?_))); done) | (rw [← show (l0.take 24).length = 24 from (by rw [List.length_take]; have h_ : (24 : Int) ≤ (l0.length : Int) := of_decide_eq_true (by first | (with_reducible assumption) | assumption); omega)]; repeat (first | exact (Kd.C_below HR319.out HB.out) | (with_reducible refine Kd.C_alloc ?_ _) | (with_reducible refine Kd.C_drewN ?_ _) | (with_reducible refine Kd.C_drew ?_))) | (repeat (first | exact (Kd.C_below HR319.out HB.out) | (with_reducible refine Kd.C_alloc ?_ _) | (with_reducible refine Kd.C_drewN ?_ _) | (with_reducible refine Kd.C_drew ?_)))); (case aB => exact (by repeat (first | (with_reducible first | exact HB.out | apply below_alloc | apply pw_below_drewN | apply below_drew1 | refine below_set ?_ GE307.out | refine below_set ?_ GE315.out) | exact HB.out))); (case aF => exact (fun _ _ => trivial)); (case aO => exact (by (with_reducible repeat (first | apply Kd.R_alloc | apply Kd.R_drewN | apply Kd.R_drew)); exact HO318.out)); (case aS => exact (below_size (by repeat (first | (with_reducible first | exact HB.out | apply below_alloc | apply pw_below_drewN | apply below_drew1 | refine below_set ?_ GE307.out | refine below_set ?_ GE315.out) | exact HB.out)))); (case aL => have := LMc26.out; have hlx_ := (show (l0.take 24).length = 24 from (by rw [List.length_take]; have h_ : (24 : Int) ≤ (l0.length : Int) := of_decide_eq_true (by first | (with_reducible assumption) | assumption); omega)); omega); intro v321 w37 ho hb hg hat; (first | rw [← Ny320.out] at ho | (simp only [Int.reduceToNat] at ho; rw [← Ny320.out] at ho)); have n0_ := Aside0.mk (blk_grown (g := gb307) (o := .cells #[.int .i64 t300, .int .i64 t301, .int .i64 t302, .int .i64 t303, .int .u64 t304, .int .u32 t305] 27 (0, 0)) (by (with_reducible repeat (first | refine blk_drewN ?_ _ | refine blk_drew ?_ | refine blk_alloc ?_ _)); exact BK307.out) hg (Kd.R_ne HO318.out BK307.out (by decide))); have n1_ := Aside0.mk (blk_grown (g := gb315) (o := .cells #[.int .i64 t308, .int .i64 t309, .int .i64 t310, .int .i64 t311, .int .u64 t312, .int .u32 t313] 27 (0, 0)) (by (with_reducible repeat (first | refine blk_drewN ?_ _ | refine blk_drew ?_ | refine blk_alloc ?_ _)); exact BK315.out) hg (Kd.R_ne HO318.out BK315.out (by decide))); have n2_ := Aside0.mk (hb); have n3_ := Aside0.mk (ho); clear BK307; clear BK315; clear HB; clear HO318; have BK307 := n0_; have BK315 := n1_; have HB := n2_; have HO322 := n3_; clear n0_ n1_ n2_ n3_; clear ho hb hg hat; obtain ⟨Ao38, co38, eo38⟩ := Kd.R_slice HO322.out; subst eo38) | ((with_reducible refine gate_callee (f := 16) rfl ?_); refine goesL_ (some 42) rfl rfl Tryd.func16 (by kernel_rfl) rfl #[.slice Ao38 y320.length co38] rfl (by (try simp only [List.map_toArray, List.map_cons, List.map_nil]); first | done | rfl | (simp only [List.length_drop, List.length_take]; rfl)) ?_; (with_reducible refine (crc_Sum.calls kj6 _ _ y320 t323 _ ?side1 ?side2 A27.out).mono ?_); (case side1 => repeat (first | exact (Kd.R_reads' HO322.out).2.2 | (with_reducible refine Kd.C_alloc ?_ _) | (with_reducible refine Kd.C_drewN ?_ _) | (with_reducible refine Kd.C_drew ?_))); (case side2 => exact (Kd.R_reads' HO322.out).2.1); rintro e w' ⟨rfl, ⟨nd, rfl⟩⟩; refine ⟨_, rfl, ?_⟩; (try (rw [drewN_self w37]; generalize hq_ : World.drewN w37 _ = w37; have n0_ : Aside0 (Kd.R (Kd.int .u8) 5 w37 w.heap.size (fun _ => True) (.slice Ao38 y320.length co38) y320) := ⟨by rw [← hq_]; exact (by (with_reducible repeat (first | apply Kd.R_alloc | apply Kd.R_drewN | apply Kd.R_drew)); exact HO322.out)⟩; have n1_ : Aside0 (w37.heap[gb307]? = some (.cells #[.int .i64 t300, .int .i64 t301, .int .i64 t302, .int .i64 t303, .int .u64 t304, .int .u32 t305] 27 (0, 0))) := ⟨by rw [← hq_]; exact (by (with_reducible repeat (first | refine blk_drewN ?_ _ | refine blk_drew ?_ | refine blk_alloc ?_ _)); exact BK307.out)⟩; have n2_ : Aside0 (w37.heap[gb315]? = some (.cells #[.int .i64 t308, .int .i64 t309, .int .i64 t310, .int .i64 t311, .int .u64 t312, .int .u32 t313] 27 (0, 0))) := ⟨by rw [← hq_]; exact (by (with_reducible repeat (first | refine blk_drewN ?_ _ | refine blk_drew ?_ | refine blk_alloc ?_ _)); exact BK315.out)⟩; have n3_ : Aside0 (Below w.heap.size w w37) := ⟨by rw [← hq_]; exact (by repeat (first | (with_reducible first | exact HB.out | apply below_alloc | apply pw_below_drewN | apply below_drew1 | refine below_set ?_ GE307.out | refine below_set ?_ GE315.out) | exact HB.out))⟩; clear HO322 BK307 BK315 HB hq_; have HO322 := n0_; have BK307 := n1_; have BK315 := n2_; have HB := n3_; clear n0_ n1_ n2_ n3_))) | ((with_reducible refine gate_callee (f := 15) rfl ?_); refine goesL_ (some 44) rfl rfl Tryd.func15 (by kernel_rfl) rfl #[.int .u64 (IntKind.u64.wrap (t323)), .int .i64 4] rfl (by (try simp only [List.map_toArray, List.map_cons, List.map_nil]); first | done | rfl | (simp only [List.length_drop, List.length_take]; rfl)) ?_; (with_reducible refine (keepsakeref04_Bytes.calls kj6 (IntKind.u64.wrap (t323)) 4 t324 _ A28.out).mono ?_); rintro e w39 ⟨v325, rfl, ho0, hb⟩; refine ⟨_, rfl, ?_⟩; have n0_ := Aside0.mk (Kd.R_elder' (by (with_reducible repeat (first | apply Kd.R_alloc | apply Kd.R_drewN | apply Kd.R_drew)); exact HO322.out) (Kd.R_base ho0) hb); have n1_ := Aside0.mk (Kd.R_lower (Kd.R_new' ho0 (Kd.R_lt (by (with_reducible repeat (first | apply Kd.R_alloc | apply Kd.R_drewN | apply Kd.R_drew)); exact HO322.out))) (below_size (by repeat (first | (with_reducible first | exact HB.out | apply below_alloc | apply pw_below_drewN | apply below_drew1 | refine below_set ?_ GE307.out | refine below_set ?_ GE315.out) | exact HB.out)))); have n2_ := Aside0.mk (blk_below (g := gb307) (o := .cells #[.int .i64 t300, .int .i64 t301, .int .i64 t302, .int .i64 t303, .int .u64 t304, .int .u32 t305] 27 (0, 0)) (by (with_reducible repeat (first | refine blk_drewN ?_ _ | refine blk_drew ?_ | refine blk_alloc ?_ _)); exact BK307.out) hb); have n3_ := Aside0.mk (blk_below (g := gb315) (o := .cells #[.int .i64 t308, .int .i64 t309, .int .i64 t310, .int .i64 t311, .int .u64 t312, .int .u32 t313] 27 (0, 0)) (by (with_reducible repeat (first | refine blk_drewN ?_ _ | refine blk_drew ?_ | refine blk_alloc ?_ _)); exact BK315.out) hb); have n4_ := Aside0.mk (below_step (by repeat (first | (with_reducible first | exact HB.out | apply below_alloc | apply pw_below_drewN | apply below_drew1 | refine below_set ?_ GE307.out | refine below_set ?_ GE315.out) | exact HB.out)) hb); clear HO322; clear BK307; clear BK315; clear HB; have HO322 := n0_; have HO326 := n1_; have BK307 := n2_; have BK315 := n3_; have HB := n4_; clear n0_ n1_ n2_ n3_ n4_; (try clear hb); (try clear hb2); (try clear hk); (try clear hi); (try clear ho0); obtain ⟨Ao41, co41, eo41⟩ := Kd.R_slice HO326.out; subst eo41) | ((with_reducible refine gate_builtin (b := .append) (xs := #[.tmp 40, .tmp 44]) rfl ?_); at_builtin; refine Kd.R_append_rows (Kd.int .u8) (w0 := w) w.heap.size rfl (.tmp 40) (.tmp 44) 29 5 (.int .u8 0) 1 rfl Tryd.underlying29 info5 rfl (by decide) (by omega) (.slice Ao38 y320.length co38) y320 t324 _ _ _ (fun k_ => some k_ ≠ (.slice Ao41 t324.length co41 : Value).ownBlock) (fun _ => False) rfl rfl ?aO ?aR (fun _ _ h => h) (fun _ h => h.elim) ?aF ?aB ?aS ?aL ?_; (case aR => repeat (first | exact (Kd.R_reads' HO326.out).2.2 | (with_reducible refine Kd.C_alloc ?_ _) | (with_reducible refine Kd.C_drewN ?_ _) | (with_reducible refine Kd.C_drew ?_))); (case aB => exact (by repeat (first | (with_reducible first | exact HB.out | apply below_alloc | apply pw_below_drewN | apply below_drew1 | refine below_set ?_ GE307.out | refine below_set ?_ GE315.out) | exact HB.out))); (case aF => exact (fun k_ hk => Kd.fresh' (Kd.R_lt (by (with_reducible repeat (first | apply Kd.R_alloc | apply Kd.R_drewN | apply Kd.R_drew)); exact HO326.out)) k_ hk)); (case aO => exact (by (with_reducible repeat (first | apply Kd.R_alloc | apply Kd.R_drewN | apply Kd.R_drew)); exact Kd.R_mono HO322.out (fun _ hk => hk.2))); (case aS => exact (below_size (by repeat (first | (with_reducible first | exact HB.out | apply below_alloc | apply pw_below_drewN | apply below_drew1 | refine below_set ?_ GE307.out | refine below_set ?_ GE315.out) | exact HB.out)))); (case aL => have := LMc29.out; omega); intro v328 w40 ho hb hg hat; (first | rw [← Ny327.out] at ho | (simp only [Int.reduceToNat] at ho; rw [← Ny327.out] at ho)); have n0_ := Aside0.mk (blk_grown (g := gb307) (o := .cells #[.int .i64 t300, .int .i64 t301, .int .i64 t302, .int .i64 t303, .int .u64 t304, .int .u32 t305] 27 (0, 0)) (by (with_reducible repeat (first | refine blk_drewN ?_ _ | refine blk_drew ?_ | refine blk_alloc ?_ _)); exact BK307.out) hg (Kd.R_ne HO322.out BK307.out (by decide))); have n1_ := Aside0.mk (blk_grown (g := gb315) (o := .cells #[.int .i64 t308, .int .i64 t309, .int .i64 t310, .int .i64 t311, .int .u64 t312, .int .u32 t313] 27 (0, 0)) (by (with_reducible repeat (first | refine blk_drewN ?_ _ | refine blk_drew ?_ | refine blk_alloc ?_ _)); exact BK315.out) hg (Kd.R_ne HO322.out BK315.out (by decide))); have n2_ := Aside0.mk (Kd.R_after (ok := (fun _ => True)) (by (with_reducible repeat (first | apply Kd.R_alloc | apply Kd.R_drewN | apply Kd.R_drew)); exact HO326.out) hg hat); have n3_ := Aside0.mk (hb); have n4_ := Aside0.mk (ho); clear BK307; clear BK315; clear HO326; clear HB; clear HO322; have BK307 := n0_; have BK315 := n1_; have HO326 := n2_; have HB := n3_; have HO329 := n4_; clear n0_ n1_ n2_ n3_ n4_; clear ho hb hg hat; obtain ⟨Ao42, co42, eo42⟩ := Kd.R_slice HO329.out; subst eo42) | ((with_reducible refine gate_callee (f := 13) rfl ?_); refine goesL_ (some 48) rfl rfl Tryd.func13 (by kernel_rfl) rfl #[.slice Ao42 y327.length co42] rfl (by (try simp only [List.map_toArray, List.map_cons, List.map_nil]); first | done | rfl | (simp only [List.length_drop, List.length_take]; rfl)) ?_; (with_reducible refine (head_Decode.calls kj6 _ _ y327 t330 t331 t332 t333 t334 t335 t336 _ ?sideG ?side1 ?side2 A30.out).mono ?_); (case sideG => first | exact Laid.below HG.out (by repeat (first | (with_reducible first | exact HB.out | apply below_alloc | apply pw_below_drewN | apply below_drew1 | refine below_set ?_ GE307.out | refine below_set ?_ GE315.out) | exact HB.out)) | repeat (first | exact Laid.below HG.out HB.out | exact HG.out | (with_reducible refine Laid.alloc ?_ _) | (with_reducible refine Laid.drewN ?_ _) | (with_reducible refine Laid.drew ?_))); (case side1 => repeat (first | exact (Kd.R_reads' HO329.out).2.2 | (with_reducible refine Kd.C_alloc ?_ _) | (with_reducible refine Kd.C_drewN ?_ _) | (with_reducible refine Kd.C_drew ?_))); (case side2 => exact (Kd.R_reads' HO329.out).2.1); rintro e w43 ⟨rfl, hb⟩; refine ⟨_, rfl, ?_⟩; have n0_ := Aside0.mk (Kd.R_below (by (with_reducible repeat (first | apply Kd.R_alloc | apply Kd.R_drewN | apply Kd.R_drew)); exact HO326.out) hb); have n1_ := Aside0.mk (Kd.R_below (by (with_reducible repeat (first | apply Kd.R_alloc | apply Kd.R_drewN | apply Kd.R_drew)); exact HO329.out) hb); have n2_ := Aside0.mk (blk_below (g := gb307) (o := .cells #[.int .i64 t300, .int .i64 t301, .int .i64 t302, .int .i64 t303, .int .u64 t304, .int .u32 t305] 27 (0, 0)) (by (with_reducible repeat (first | refine blk_drewN ?_ _ | refine blk_drew ?_ | refine blk_alloc ?_ _)); exact BK307.out) hb); have n3_ := Aside0.mk (blk_below (g := gb315) (o := .cells #[.int .i64 t308, .int .i64 t309, .int .i64 t310, .int .i64 t311, .int .u64 t312, .int .u32 t313] 27 (0, 0)) (by (with_reducible repeat (first | refine blk_drewN ?_ _ | refine blk_drew ?_ | refine blk_alloc ?_ _)); exact BK315.out) hb); have n4_ := Aside0.mk (below_step (by repeat (first | (with_reducible first | exact HB.out | apply below_alloc | apply pw_below_drewN | apply below_drew1 | refine below_set ?_ GE307.out | refine below_set ?_ GE315.out) | exact HB.out)) hb); clear HO326; clear HO329; clear BK307; clear BK315; clear HB; have HO326 := n0_; have HO329 := n1_; have BK307 := n2_; have BK315 := n3_; have HB := n4_; clear n0_ n1_ n2_ n3_ n4_; (try clear hb); (try clear hb2); (try clear hk); (try clear hi); have hnb44 := NB307_315.out; have hnc44 := NB315_307.out; have hcz45_0 : w43.cell? ⟨gb307, 0, none⟩ = some (.int .i64 t300) := (blk_cell BK307.out 0).trans rfl; have hcz45_1 : w43.cell? ⟨gb307, 1, none⟩ = some (.int .i64 t301) := (blk_cell BK307.out 1).trans rfl; have hcz45_2 : w43.cell? ⟨gb307, 2, none⟩ = some (.int .i64 t302) := (blk_cell BK307.out 2).trans rfl; have hcz45_3 : w43.cell? ⟨gb307, 3, none⟩ = some (.int .i64 t303) := (blk_cell BK307.out 3).trans rfl; have hcz45_4 : w43.cell? ⟨gb307, 4, none⟩ = some (.int .u64 t304) := (blk_cell BK307.out 4).trans rfl; have hcz45_5 : w43.cell? ⟨gb307, 5, none⟩ = some (.int .u32 t305) := (blk_cell BK307.out 5).trans rfl; have hfz45_0 := blk_frozen BK307.out 0; have hfz45_1 := blk_frozen BK307.out 1; have hfz45_2 := blk_frozen BK307.out 2; have hfz45_3 := blk_frozen BK307.out 3; have hfz45_4 := blk_frozen BK307.out 4; have hfz45_5 := blk_frozen BK307.out 5) | ((with_reducible refine gate_callee (f := 14) rfl ?_); refine goesL_ (some 53) rfl rfl Tryd.func14 (by kernel_rfl) rfl #[.slice Ao42 y327.length co42] rfl (by (try simp only [List.map_toArray, List.map_cons, List.map_nil]); first | done | rfl | (simp only [List.length_drop, List.length_take]; rfl)) ?_; (with_reducible refine (keepsakeref04_Decode.calls kj6 _ _ y327 t337 t338 t339 t340 t341 t342 t343 _ ?side1 ?side2 A31.out).mono ?_); (case side1 => refine (Kd.R_reads' (e := 5) (base := w.heap.size) (ok := fun k_ => some k_ ≠ (.slice Ao41 t324.length co41 : Value).ownBlock) (n := y327.length) (c := co42) ?_).2.2; exact (by (with_reducible repeat (first | apply Kd.R_alloc | apply Kd.R_drewN | apply Kd.R_drew)); exact (Kd.R_mono (Kd.R_far (p := ⟨gb307, 5, none⟩) (Kd.R_far (p := ⟨gb307, 4, none⟩) (Kd.R_far (p := ⟨gb307, 3, none⟩) (Kd.R_far (p := ⟨gb307, 2, none⟩) (Kd.R_far (p := ⟨gb307, 1, none⟩) (Kd.R_far (p := ⟨gb307, 0, none⟩) (Kd.R_types HO329.out BK307.out (by decide)) (fun _ hk => hk.2) (.int .i64 t330)) (fun _ hk => hk.2) (.int .i64 t331)) (fun _ hk => hk.2) (.int .i64 t332)) (fun _ hk => hk.2) (.int .i64 t333)) (fun _ hk => hk.2) (.int .u64 t334)) (fun _ hk => hk.2) (.int .u32 t335)) (fun _ h_ => h_.1)))); (case side2 => exact (Kd.R_reads' HO329.out).2.1); rintro e w46 ⟨rfl, hb⟩; refine ⟨_, rfl, ?_⟩; have n0_ := Aside0.mk (Kd.R_below (by (with_reducible repeat (first | apply Kd.R_alloc | apply Kd.R_drewN | apply Kd.R_drew)); exact (Kd.R_mono (Kd.R_far (p := ⟨gb307, 5, none⟩) (Kd.R_far (p := ⟨gb307, 4, none⟩) (Kd.R_far (p := ⟨gb307, 3, none⟩) (Kd.R_far (p := ⟨gb307, 2, none⟩) (Kd.R_far (p := ⟨gb307, 1, none⟩) (Kd.R_far (p := ⟨gb307, 0, none⟩) (Kd.R_types HO326.out BK307.out (by decide)) (fun _ hk => hk.2) (.int .i64 t330)) (fun _ hk => hk.2) (.int .i64 t331)) (fun _ hk => hk.2) (.int .i64 t332)) (fun _ hk => hk.2) (.int .i64 t333)) (fun _ hk => hk.2) (.int .u64 t334)) (fun _ hk => hk.2) (.int .u32 t335)) (fun _ h_ => h_.1))) hb); have n1_ := Aside0.mk (Kd.R_below (by (with_reducible repeat (first | apply Kd.R_alloc | apply Kd.R_drewN | apply Kd.R_drew)); exact (Kd.R_mono (Kd.R_far (p := ⟨gb307, 5, none⟩) (Kd.R_far (p := ⟨gb307, 4, none⟩) (Kd.R_far (p := ⟨gb307, 3, none⟩) (Kd.R_far (p := ⟨gb307, 2, none⟩) (Kd.R_far (p := ⟨gb307, 1, none⟩) (Kd.R_far (p := ⟨gb307, 0, none⟩) (Kd.R_types HO329.out BK307.out (by decide)) (fun _ hk => hk.2) (.int .i64 t330)) (fun _ hk => hk.2) (.int .i64 t331)) (fun _ hk => hk.2) (.int .i64 t332)) (fun _ hk => hk.2) (.int .i64 t333)) (fun _ hk => hk.2) (.int .u64 t334)) (fun _ hk => hk.2) (.int .u32 t335)) (fun _ h_ => h_.1))) hb); have n2_ := Aside0.mk (blk_below (g := gb307) (o := .cells #[.int .i64 t330, .int .i64 t331, .int .i64 t332, .int .i64 t333, .int .u64 t334, .int .u32 t335] 27 (0, 0)) (by (with_reducible repeat (first | refine blk_drewN ?_ _ | refine blk_drew ?_ | refine blk_alloc ?_ _)); refine blk_put (cs := #[.int .i64 t330, .int .i64 t331, .int .i64 t332, .int .i64 t333, .int .u64 t334, .int .u32 t305]) ?_ 5 _ rfl; (with_reducible repeat (first | refine blk_drewN ?_ _ | refine blk_drew ?_ | refine blk_alloc ?_ _)); refine blk_put (cs := #[.int .i64 t330, .int .i64 t331, .int .i64 t332, .int .i64 t333, .int .u64 t304, .int .u32 t305]) ?_ 4 _ rfl; (with_reducible repeat (first | refine blk_drewN ?_ _ | refine blk_drew ?_ | refine blk_alloc ?_ _)); refine blk_put (cs := #[.int .i64 t330, .int .i64 t331, .int .i64 t332, .int .i64 t303, .int .u64 t304, .int .u32 t305]) ?_ 3 _ rfl; (with_reducible repeat (first | refine blk_drewN ?_ _ | refine blk_drew ?_ | refine blk_alloc ?_ _)); refine blk_put (cs := #[.int .i64 t330, .int .i64 t331, .int .i64 t302, .int .i64 t303, .int .u64 t304, .int .u32 t305]) ?_ 2 _ rfl; (with_reducible repeat (first | refine blk_drewN ?_ _ | refine blk_drew ?_ | refine blk_alloc ?_ _)); refine blk_put (cs := #[.int .i64 t330, .int .i64 t301, .int .i64 t302, .int .i64 t303, .int .u64 t304, .int .u32 t305]) ?_ 1 _ rfl; (with_reducible repeat (first | refine blk_drewN ?_ _ | refine blk_drew ?_ | refine blk_alloc ?_ _)); refine blk_put (cs := #[.int .i64 t300, .int .i64 t301, .int .i64 t302, .int .i64 t303, .int .u64 t304, .int .u32 t305]) ?_ 0 _ rfl; (with_reducible repeat (first | refine blk_drewN ?_ _ | refine blk_drew ?_ | refine blk_alloc ?_ _)); exact BK307.out) hb); have n3_ := Aside0.mk (blk_below (g := gb315) (o := .cells #[.int .i64 t308, .int .i64 t309, .int .i64 t310, .int .i64 t311, .int .u64 t312, .int .u32 t313] 27 (0, 0)) (by (with_reducible repeat (first | refine blk_drewN ?_ _ | refine blk_drew ?_ | refine blk_alloc ?_ _)); refine blk_far ?_ NB315_307.out _; (with_reducible repeat (first | refine blk_drewN ?_ _ | refine blk_drew ?_ | refine blk_alloc ?_ _)); refine blk_far ?_ NB315_307.out _; (with_reducible repeat (first | refine blk_drewN ?_ _ | refine blk_drew ?_ | refine blk_alloc ?_ _)); refine blk_far ?_ NB315_307.out _; (with_reducible repeat (first | refine blk_drewN ?_ _ | refine blk_drew ?_ | refine blk_alloc ?_ _)); refine blk_far ?_ NB315_307.out _; (with_reducible repeat (first | refine blk_drewN ?_ _ | refine blk_drew ?_ | refine blk_alloc ?_ _)); refine blk_far ?_ NB315_307.out _; (with_reducible repeat (first | refine blk_drewN ?_ _ | refine blk_drew ?_ | refine blk_alloc ?_ _)); refine blk_far ?_ NB315_307.out _; (with_reducible repeat (first | refine blk_drewN ?_ _ | refine blk_drew ?_ | refine blk_alloc ?_ _)); exact BK315.out) hb); have n4_ := Aside0.mk (below_step (by repeat (first | (with_reducible first | exact HB.out | apply below_alloc | apply pw_below_drewN | apply below_drew1 | refine below_set ?_ GE307.out | refine below_set ?_ GE315.out) | exact HB.out)) hb); clear HO326; clear HO329; clear BK307; clear BK315; clear HB; have HO326 := n0_; have HO329 := n1_; have BK307 := n2_; have BK315 := n3_; have HB := n4_; clear n0_ n1_ n2_ n3_ n4_; (try clear hb); (try clear hb2); (try clear hk); (try clear hi); have hcz47_0 : w46.cell? ⟨gb315, 0, none⟩ = some (.int .i64 t308) := (blk_cell BK315.out 0).trans rfl; have hcz47_1 : w46.cell? ⟨gb315, 1, none⟩ = some (.int .i64 t309) := (blk_cell BK315.out 1).trans rfl; have hcz47_2 : w46.cell? ⟨gb315, 2, none⟩ = some (.int .i64 t310) := (blk_cell BK315.out 2).trans rfl; have hcz47_3 : w46.cell? ⟨gb315, 3, none⟩ = some (.int .i64 t311) := (blk_cell BK315.out 3).trans rfl; have hcz47_4 : w46.cell? ⟨gb315, 4, none⟩ = some (.int .u64 t312) := (blk_cell BK315.out 4).trans rfl; have hcz47_5 : w46.cell? ⟨gb315, 5, none⟩ = some (.int .u32 t313) := (blk_cell BK315.out 5).trans rfl; have hfz47_0 := blk_frozen BK315.out 0; have hfz47_1 := blk_frozen BK315.out 1; have hfz47_2 := blk_frozen BK315.out 2; have hfz47_3 := blk_frozen BK315.out 3; have hfz47_4 := blk_frozen BK315.out 4; have hfz47_5 := blk_frozen BK315.out 5; have hcz48_0 : w46.cell? ⟨gb307, 0, none⟩ = some (.int .i64 t330) := (blk_cell BK307.out 0).trans rfl; have hcz48_1 : w46.cell? ⟨gb307, 1, none⟩ = some (.int .i64 t331) := (blk_cell BK307.out 1).trans rfl; have hcz48_2 : w46.cell? ⟨gb307, 2, none⟩ = some (.int .i64 t332) := (blk_cell BK307.out 2).trans rfl; have hcz48_3 : w46.cell? ⟨gb307, 3, none⟩ = some (.int .i64 t333) := (blk_cell BK307.out 3).trans rfl; have hcz48_4 : w46.cell? ⟨gb307, 4, none⟩ = some (.int .u64 t334) := (blk_cell BK307.out 4).trans rfl; have hcz48_5 : w46.cell? ⟨gb307, 5, none⟩ = some (.int .u32 t335) := (blk_cell BK307.out 5).trans rfl; have hfz48_0 := blk_frozen BK307.out 0; have hfz48_1 := blk_frozen BK307.out 1; have hfz48_2 := blk_frozen BK307.out 2; have hfz48_3 := blk_frozen BK307.out 3; have hfz48_4 := blk_frozen BK307.out 4; have hfz48_5 := blk_frozen BK307.out 5))
                   go_ret
                   exact ⟨by first | rfl | (simp [errW_none, errW_some] <;> rfl) | (simp [*, errW_none, errW_some] <;> rfl), by repeat (first | (with_reducible first | exact HB.out | apply below_alloc | apply pw_below_drewN | apply below_drew1 | refine below_set ?_ GE307.out | refine below_set ?_ GE315.out) | exact HB.out)⟩
                 · rw [if_neg c33] at H
                   exact absurd H (by simp)
               · replace c32 := Bool.eq_false_iff.mpr c32
                 subst c32
                 have H1 : (none) = some r := by rw [if_neg (show ¬ (false = true) by decide)] at H; exact H
                 clear H
                 have H := H1
                 clear H1
                 exact absurd H (by simp)
             · rw [if_neg c29] at H
               exact absurd H (by simp)
           · rw [if_neg c26] at H
             exact absurd H (by simp)
         · rw [if_neg c25] at H
           exact absurd H (by simp)

/-- THE ONE PURE STATEMENT of keepsakelaw04_HeadReads: yours. -/
def keepsakelaw04_HeadReads.Pure : Prop := ∀ (l0 : List Int), l0.length ≤ maxLen → l0.length * 1 ≤ 140737488351232 → (∀ x ∈ l0, (Lit.int .u8 x).wf = true) → ∃ k, keepsakelaw04_HeadReads.f k l0 = some true
theorem keepsakelaw04_HeadReads.walk (P : keepsakelaw04_HeadReads.Pure) (a0 : Option Addr) (len0 cap0 : Nat) (z0 : List Int) (w : World) (hG : Laid w) (w0 : (a0 = none ∧ len0 = 0 ∧ cap0 = 0 ∧ z0 = []) ∨ ∃ x, a0 = some x ∧ len0 ≤ cap0 ∧ cap0 ≤ maxLen ∧ z0.length = cap0 ∧ (∀ i, i < z0.length → w.cell? (x.add i) = some (.int .u8 (z0.getD i 0))) ∧ ∀ n ∈ z0, (Lit.int .u8 n).wf = true) (y0 : len0 * 1 ≤ 140737488351232) :
 Calls Tryd.prog 4 #[.slice a0 len0 cap0] w fun e w' => e = .returned (.bool true) ∧ Below w.heap.size w w' := by
 obtain ⟨l0, rfl, hr0, hm0, hw0, hc0⟩ := ReadsInt.ofRowC w0
 obtain ⟨k, h⟩ := P l0 hm0 y0 hw0
 refine (keepsakelaw04_HeadReads.calls k _ _ l0 true w hG (Kd.C_of_reads (d := (0 : Int)) (h1 := fun _ => rfl) hr0) hc0 h).mono ?_
 rintro e w' ⟨rfl, hd⟩
 exact ⟨rfl, hd⟩

end Go.Proofs.YtlinaijndlcfjaaDoor.All
-- slimmed
