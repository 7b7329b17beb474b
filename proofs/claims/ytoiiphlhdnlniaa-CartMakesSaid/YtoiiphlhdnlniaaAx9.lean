-- written by a program of mine (xprint_patch.py over the kit's print)
import Derived.Test.YtoiiphlhdnlniaaAx0
import Derived.Test.YtoiiphlhdnlniaaAx3
import Derived.Test.YtoiiphlhdnlniaaAx6
import Derived.Test.YtoiiphlhdnlniaaAx8
import Derived.Test.YtoiiphlhdnlniaaMade
namespace Go.Proofs.Ytoiiphlhdnlniaa.Given
end Go.Proofs.Ytoiiphlhdnlniaa.Given
namespace Go.Proofs.Ytoiiphlhdnlniaa.All
open Go.Proofs.Ytoiiphlhdnlniaa.Given
open Go.RowKit Go.Proofs.YtoiiphlhdnlniaaW.PrintWords Go.Proofs.YtoiiphlhdnlniaaW.PrintLast Go.Proofs.YtoiiphlhdnlniaaW.PrintMore
attribute [local go_sem] max2_int min2_int max_two min_two max_three min_three max_four min_four   -- for this text's walks alone
set_option linter.unusedVariables false
set_option linter.unusedSimpArgs false

/-! ### keepsakelaw21_CartMakes: function 4 -/
def keepsakelaw21_CartMakes.f (k : Nat) (a0_0 : Int) (a0_1 : Int) (a0_2 : Int) (a0_3 : Int) (a0_4 : Int) (l0_5 : List Int) : Option (Bool) := (keepsakelaw21_awake.f).bind fun t310 => (if (l0_5.length : Int) > 600 then (some t310) else ((cart_Make.f a0_0 a0_1 a0_2 a0_3 a0_4 l0_5).bind fun bt311 => ((keepsakeref21_Make.f k a0_0 a0_1 a0_2 a0_3 a0_4 l0_5).bind fun bt315 => (if t310 = true then (if bt311.2 = bt315.2 then ((keepsakeref01_Same.f k bt311.1 bt315.1).bind fun t319 => (some t319)) else (none)) else (none)))))
theorem keepsakelaw21_CartMakes.mono : ∀ a0 a1 a2 a3 a4 a5 k, LeO (keepsakelaw21_CartMakes.f k a0 a1 a2 a3 a4 a5) (keepsakelaw21_CartMakes.f (k + 1) a0 a1 a2 a3 a4 a5) := by
 intro a0 a1 a2 a3 a4 a5 k
 unfold keepsakelaw21_CartMakes.f
 repeat' first
  | (with_reducible exact keepsakeref01_Same.mono _ _ _)
  | (with_reducible exact keepsakeref21_Make.mono _ _ _ _ _ _ _)
  | (with_reducible exact LeO.refl _)
  | (with_reducible exact LeO.none _)
  | (with_reducible refine LeO.ite ?_ ?_)
  | (with_reducible refine LeO.bind ?_ (fun _ => ?_))
  | exact keepsakeref01_Same.mono _ _ _
  | exact keepsakeref21_Make.mono _ _ _ _ _ _ _
  | exact LeO.none _
  | refine LeO.ite ?_ ?_
  | refine LeO.bind ?_ (fun _ => ?_)
set_option maxHeartbeats 8000000 in
set_option maxRecDepth 100000 in
theorem keepsakelaw21_CartMakes.calls (k : Nat) (a0_0 : Int) (a0_1 : Int) (a0_2 : Int) (a0_3 : Int) (a0_4 : Int) (A0_5 : Option Addr) (c0_5 : Nat) (l0_5 : List Int) (r : Bool) (w : World) (hr0_5 : Kd.C (Kd.int .u8) w A0_5 l0_5.length l0_5) (hc0_5 : l0_5.length ≤ c0_5) (h : keepsakelaw21_CartMakes.f k a0_0 a0_1 a0_2 a0_3 a0_4 l0_5 = some r) :
 Calls Try.prog 4 #[.agg #[.int .i64 a0_0, .int .i64 a0_1, .int .i64 a0_2, .int .i64 a0_3, .int .i64 a0_4, .slice A0_5 l0_5.length c0_5]] w fun e w' => e = .returned (.bool r) ∧ Below w.heap.size w w' := by
 have hu27 := Try.underlying27
 have HR0_5 := Aside0.mk hr0_5
 have HC0_5 := Aside0.mk hc0_5
 clear hr0_5 hc0_5
 have HB := Aside0.mk (Below.refl w.heap.size w)
 have H : ((keepsakelaw21_awake.f).bind fun t310 => (if (l0_5.length : Int) > 600 then (some t310) else ((cart_Make.f a0_0 a0_1 a0_2 a0_3 a0_4 l0_5).bind fun bt311 => ((keepsakeref21_Make.f k a0_0 a0_1 a0_2 a0_3 a0_4 l0_5).bind fun bt315 => (if t310 = true then (if bt311.2 = bt315.2 then ((keepsakeref01_Same.f k bt311.1 bt315.1).bind fun t319 => (some t319)) else (none)) else (none)))))) = some r := h
 clear h
 replace H := Option.bind_eq_some_iff.mp H
 obtain ⟨t310, A20, H⟩ := H
 replace H : (if (l0_5.length : Int) > 600 then (some t310) else ((cart_Make.f a0_0 a0_1 a0_2 a0_3 a0_4 l0_5).bind fun bt311 => ((keepsakeref21_Make.f k a0_0 a0_1 a0_2 a0_3 a0_4 l0_5).bind fun bt315 => (if t310 = true then (if bt311.2 = bt315.2 then ((keepsakeref01_Same.f k bt311.1 bt315.1).bind fun t319 => (some t319)) else (none)) else (none))))) = some r := H
 have A2 := Aside0.mk A20
 clear A20
 by_cases c3 : (l0_5.length : Int) > 600
 · rw [if_pos c3] at H
   have c3b0 : decide (600 < (l0_5.length : Int)) = true := decide_eq_true c3
   have c3b1 : decide (600 < l0_5.length) = true := decide_eq_true (by omega)
   clear c3
   obtain rfl := Option.some.inj H
   go_enter Try.func4, Try.ntmps4
   go_wp2_with (first | ((with_reducible refine gate_dst (N := 1) rfl ?_); refine box_event ?hg (N := 1) ?hd (cs := #[.int .i64 a0_0, .int .i64 a0_1, .int .i64 a0_2, .int .i64 a0_3, .int .i64 a0_4, .slice A0_5 l0_5.length c0_5]) (t := 27) ?hr ?_; (case hd => rfl); (case hg => rfl); (case hr => first | (go_simp; done) | (go_simp; rfl)); intro gb309 hg w4 hbox hb; have n0_ := Aside0.mk (below_step (by repeat (first | (with_reducible first | exact HB.out | apply below_alloc | apply pw_below_drewN | apply below_drew1) | exact HB.out)) hb); have n1_ := Aside0.mk (hbox); have n2_ := Aside0.mk ((by rw [hg]; exact (below_size (by repeat (first | (with_reducible first | exact HB.out | apply below_alloc | apply pw_below_drewN | apply below_drew1) | exact HB.out))) : w.heap.size ≤ gb309)); have n3_ := Aside0.mk ((by rw [hg]; exact (below_size (by repeat (first | (with_reducible first | exact HB.out | apply below_alloc | apply pw_below_drewN | apply below_drew1) | exact HB.out))) : w.heap.size ≤ gb309)); clear HB; have HB := n0_; have BK309 := n1_; have GW309 := n2_; have GE309 := n3_; clear n0_ n1_ n2_ n3_; clear hb hbox hg) | ((with_reducible refine gate_callee (f := 8) rfl ?_); refine goesL_ (some 8) rfl rfl Try.func8 (by kernel_rfl) rfl #[] rfl (by (try simp only [List.map_toArray, List.map_cons, List.map_nil]); first | done | rfl | (simp only [List.length_drop, List.length_take]; rfl)) ?_; (with_reducible refine (keepsakelaw21_awake.calls  t310 _ A2.out).mono ?_); rintro e w5 ⟨rfl, hb⟩; refine ⟨_, rfl, ?_⟩; have n0_ := Aside0.mk (blk_below (g := gb309) (o := .cells #[.int .i64 a0_0, .int .i64 a0_1, .int .i64 a0_2, .int .i64 a0_3, .int .i64 a0_4, .slice A0_5 l0_5.length c0_5] 27 (0, 0)) (by (with_reducible repeat (first | refine blk_drewN ?_ _ | refine blk_drew ?_ | refine blk_alloc ?_ _)); exact BK309.out) hb); have n1_ := Aside0.mk (below_step (by repeat (first | (with_reducible first | exact HB.out | apply below_alloc | apply pw_below_drewN | apply below_drew1 | refine below_set ?_ GE309.out) | exact HB.out)) hb); clear BK309; clear HB; have BK309 := n0_; have HB := n1_; clear n0_ n1_; (try clear hb); (try clear hb2); (try clear hk); (try clear hi); have hcz6_0 : w5.cell? ⟨gb309, 0, none⟩ = some (.int .i64 a0_0) := (blk_cell BK309.out 0).trans rfl; have hcz6_1 : w5.cell? ⟨gb309, 1, none⟩ = some (.int .i64 a0_1) := (blk_cell BK309.out 1).trans rfl; have hcz6_2 : w5.cell? ⟨gb309, 2, none⟩ = some (.int .i64 a0_2) := (blk_cell BK309.out 2).trans rfl; have hcz6_3 : w5.cell? ⟨gb309, 3, none⟩ = some (.int .i64 a0_3) := (blk_cell BK309.out 3).trans rfl; have hcz6_4 : w5.cell? ⟨gb309, 4, none⟩ = some (.int .i64 a0_4) := (blk_cell BK309.out 4).trans rfl; have hcz6_5 : w5.cell? ⟨gb309, 5, none⟩ = some (.slice A0_5 l0_5.length c0_5) := (blk_cell BK309.out 5).trans rfl; have hfz6_0 := blk_frozen BK309.out 0; have hfz6_1 := blk_frozen BK309.out 1; have hfz6_2 := blk_frozen BK309.out 2; have hfz6_3 := blk_frozen BK309.out 3; have hfz6_4 := blk_frozen BK309.out 4; have hfz6_5 := blk_frozen BK309.out 5))
   go_ret
   exact ⟨by first | rfl | (simp [errW_none, errW_some] <;> rfl) | (simp [*, errW_none, errW_some] <;> rfl), by repeat (first | (with_reducible first | exact HB.out | apply below_alloc | apply pw_below_drewN | apply below_drew1 | refine below_set ?_ GE309.out) | exact HB.out)⟩
 · rw [if_neg c3] at H
   have c3b0 : decide (600 < (l0_5.length : Int)) = false := decide_eq_false c3
   have c3b1 : decide (600 < l0_5.length) = false := decide_eq_false (by omega)
   clear c3
   replace H := Option.bind_eq_some_iff.mp H
   obtain ⟨⟨t311, t314⟩, A70, H⟩ := H
   replace H : ((keepsakeref21_Make.f k a0_0 a0_1 a0_2 a0_3 a0_4 l0_5).bind fun bt315 => (if t310 = true then (if t314 = bt315.2 then ((keepsakeref01_Same.f k t311 bt315.1).bind fun t319 => (some t319)) else (none)) else (none))) = some r := H
   have A7 := Aside0.mk A70
   clear A70
   replace H := Option.bind_eq_some_iff.mp H
   obtain ⟨⟨t315, t318⟩, A80, H⟩ := H
   replace H : (if t310 = true then (if t314 = t318 then ((keepsakeref01_Same.f k t311 t315).bind fun t319 => (some t319)) else (none)) else (none)) = some r := H
   have A8 := Aside0.mk A80
   clear A80
   by_cases c9 : t310 = true
   · subst c9
     have H1 : (if t314 = t318 then ((keepsakeref01_Same.f k t311 t315).bind fun t319 => (some t319)) else (none)) = some r := by rw [if_pos rfl] at H; exact H
     clear H
     have H := H1
     clear H1
     by_cases c10 : t314 = t318
     · rw [if_pos c10] at H
       have c10b0 : (t314 == t318) = true := beq_iff_eq.mpr c10
       have c10b1 : (t314 != t318) = false := bne_eq_false_iff_eq.mpr c10
       clear c10
       replace H := Option.bind_eq_some_iff.mp H
       obtain ⟨t319, A110, H⟩ := H
       replace H : (some t319) = some r := H
       have A11 := Aside0.mk A110
       clear A110
       obtain rfl := Option.some.inj H
       go_enter Try.func4, Try.ntmps4
       go_wp2_with (first | ((with_reducible refine gate_dst (N := 1) rfl ?_); refine box_event ?hg (N := 1) ?hd (cs := #[.int .i64 a0_0, .int .i64 a0_1, .int .i64 a0_2, .int .i64 a0_3, .int .i64 a0_4, .slice A0_5 l0_5.length c0_5]) (t := 27) ?hr ?_; (case hd => rfl); (case hg => rfl); (case hr => first | (go_simp; done) | (go_simp; rfl)); intro gb309 hg w12 hbox hb; have n0_ := Aside0.mk (below_step (by repeat (first | (with_reducible first | exact HB.out | apply below_alloc | apply pw_below_drewN | apply below_drew1) | exact HB.out)) hb); have n1_ := Aside0.mk (hbox); have n2_ := Aside0.mk ((by rw [hg]; exact (below_size (by repeat (first | (with_reducible first | exact HB.out | apply below_alloc | apply pw_below_drewN | apply below_drew1) | exact HB.out))) : w.heap.size ≤ gb309)); have n3_ := Aside0.mk ((by rw [hg]; exact (below_size (by repeat (first | (with_reducible first | exact HB.out | apply below_alloc | apply pw_below_drewN | apply below_drew1) | exact HB.out))) : w.heap.size ≤ gb309)); clear HB; have HB := n0_; have BK309 := n1_; have GW309 := n2_; have GE309 := n3_; clear n0_ n1_ n2_ n3_; clear hb hbox hg) | ((with_reducible refine gate_callee (f := 8) rfl ?_); refine goesL_ (some 8) rfl rfl Try.func8 (by kernel_rfl) rfl #[] rfl (by (try simp only [List.map_toArray, List.map_cons, List.map_nil]); first | done | rfl | (simp only [List.length_drop, List.length_take]; rfl)) ?_; (with_reducible refine (keepsakelaw21_awake.calls  true _ A2.out).mono ?_); rintro e w13 ⟨rfl, hb⟩; refine ⟨_, rfl, ?_⟩; have n0_ := Aside0.mk (blk_below (g := gb309) (o := .cells #[.int .i64 a0_0, .int .i64 a0_1, .int .i64 a0_2, .int .i64 a0_3, .int .i64 a0_4, .slice A0_5 l0_5.length c0_5] 27 (0, 0)) (by (with_reducible repeat (first | refine blk_drewN ?_ _ | refine blk_drew ?_ | refine blk_alloc ?_ _)); exact BK309.out) hb); have n1_ := Aside0.mk (below_step (by repeat (first | (with_reducible first | exact HB.out | apply below_alloc | apply pw_below_drewN | apply below_drew1 | refine below_set ?_ GE309.out) | exact HB.out)) hb); clear BK309; clear HB; have BK309 := n0_; have HB := n1_; clear n0_ n1_; (try clear hb); (try clear hb2); (try clear hk); (try clear hi); have hcz14_0 : w13.cell? ⟨gb309, 0, none⟩ = some (.int .i64 a0_0) := (blk_cell BK309.out 0).trans rfl; have hcz14_1 : w13.cell? ⟨gb309, 1, none⟩ = some (.int .i64 a0_1) := (blk_cell BK309.out 1).trans rfl; have hcz14_2 : w13.cell? ⟨gb309, 2, none⟩ = some (.int .i64 a0_2) := (blk_cell BK309.out 2).trans rfl; have hcz14_3 : w13.cell? ⟨gb309, 3, none⟩ = some (.int .i64 a0_3) := (blk_cell BK309.out 3).trans rfl; have hcz14_4 : w13.cell? ⟨gb309, 4, none⟩ = some (.int .i64 a0_4) := (blk_cell BK309.out 4).trans rfl; have hcz14_5 : w13.cell? ⟨gb309, 5, none⟩ = some (.slice A0_5 l0_5.length c0_5) := (blk_cell BK309.out 5).trans rfl; have hfz14_0 := blk_frozen BK309.out 0; have hfz14_1 := blk_frozen BK309.out 1; have hfz14_2 := blk_frozen BK309.out 2; have hfz14_3 := blk_frozen BK309.out 3; have hfz14_4 := blk_frozen BK309.out 4; have hfz14_5 := blk_frozen BK309.out 5) | ((with_reducible refine gate_callee (f := 15) rfl ?_); refine goesL_ (some 16) rfl rfl Try.func15 (by kernel_rfl) rfl #[.agg #[.int .i64 a0_0, .int .i64 a0_1, .int .i64 a0_2, .int .i64 a0_3, .int .i64 a0_4, .slice A0_5 l0_5.length c0_5]] rfl (by (try simp only [List.map_toArray, List.map_cons, List.map_nil]); first | done | rfl | (simp only [List.length_drop, List.length_take]; rfl)) ?_; (with_reducible refine (cart_Make.calls a0_0 a0_1 a0_2 a0_3 a0_4 _ _ l0_5 t311 t314 _ ?side1 ?side2 A7.out).mono ?_); (case side1 => repeat (first | exact (Kd.C_below HR0_5.out HB.out) | (with_reducible refine Kd.C_alloc ?_ _) | (with_reducible refine Kd.C_drewN ?_ _) | (with_reducible refine Kd.C_drew ?_))); (case side2 => exact HC0_5.out); rintro e w15 ⟨v312, rfl, ho0, hb⟩; refine ⟨_, rfl, ?_⟩; have n0_ := Aside0.mk (Kd.R_lower ho0 (below_size (by repeat (first | (with_reducible first | exact HB.out | apply below_alloc | apply pw_below_drewN | apply below_drew1 | refine below_set ?_ GE309.out) | exact HB.out)))); have n1_ := Aside0.mk (blk_below (g := gb309) (o := .cells #[.int .i64 a0_0, .int .i64 a0_1, .int .i64 a0_2, .int .i64 a0_3, .int .i64 a0_4, .slice A0_5 l0_5.length c0_5] 27 (0, 0)) (by (with_reducible repeat (first | refine blk_drewN ?_ _ | refine blk_drew ?_ | refine blk_alloc ?_ _)); exact BK309.out) hb); have n2_ := Aside0.mk (below_step (by repeat (first | (with_reducible first | exact HB.out | apply below_alloc | apply pw_below_drewN | apply below_drew1 | refine below_set ?_ GE309.out) | exact HB.out)) hb); clear BK309; clear HB; have HO313 := n0_; have BK309 := n1_; have HB := n2_; clear n0_ n1_ n2_; (try clear hb); (try clear hb2); (try clear hk); (try clear hi); (try clear ho0); have hcz16_0 : w15.cell? ⟨gb309, 0, none⟩ = some (.int .i64 a0_0) := (blk_cell BK309.out 0).trans rfl; have hcz16_1 : w15.cell? ⟨gb309, 1, none⟩ = some (.int .i64 a0_1) := (blk_cell BK309.out 1).trans rfl; have hcz16_2 : w15.cell? ⟨gb309, 2, none⟩ = some (.int .i64 a0_2) := (blk_cell BK309.out 2).trans rfl; have hcz16_3 : w15.cell? ⟨gb309, 3, none⟩ = some (.int .i64 a0_3) := (blk_cell BK309.out 3).trans rfl; have hcz16_4 : w15.cell? ⟨gb309, 4, none⟩ = some (.int .i64 a0_4) := (blk_cell BK309.out 4).trans rfl; have hcz16_5 : w15.cell? ⟨gb309, 5, none⟩ = some (.slice A0_5 l0_5.length c0_5) := (blk_cell BK309.out 5).trans rfl; have hfz16_0 := blk_frozen BK309.out 0; have hfz16_1 := blk_frozen BK309.out 1; have hfz16_2 := blk_frozen BK309.out 2; have hfz16_3 := blk_frozen BK309.out 3; have hfz16_4 := blk_frozen BK309.out 4; have hfz16_5 := blk_frozen BK309.out 5) | ((with_reducible refine gate_callee (f := 16) rfl ?_); refine goesL_ (some 21) rfl rfl Try.func16 (by kernel_rfl) rfl #[.agg #[.int .i64 a0_0, .int .i64 a0_1, .int .i64 a0_2, .int .i64 a0_3, .int .i64 a0_4, .slice A0_5 l0_5.length c0_5]] rfl (by (try simp only [List.map_toArray, List.map_cons, List.map_nil]); first | done | rfl | (simp only [List.length_drop, List.length_take]; rfl)) ?_; (with_reducible refine (keepsakeref21_Make.calls k a0_0 a0_1 a0_2 a0_3 a0_4 _ _ l0_5 t315 t318 _ ?side1 ?side2 A8.out).mono ?_); (case side1 => repeat (first | exact (Kd.C_below HR0_5.out HB.out) | (with_reducible refine Kd.C_alloc ?_ _) | (with_reducible refine Kd.C_drewN ?_ _) | (with_reducible refine Kd.C_drew ?_))); (case side2 => exact HC0_5.out); rintro e w17 ⟨v316, rfl, ho0, hb⟩; refine ⟨_, rfl, ?_⟩; have n0_ := Aside0.mk (Kd.R_elder' (by (with_reducible repeat (first | apply Kd.R_alloc | apply Kd.R_drewN | apply Kd.R_drew)); exact HO313.out) (Kd.R_base ho0) hb); have n1_ := Aside0.mk (Kd.R_lower (Kd.R_new' ho0 (Kd.R_lt (by (with_reducible repeat (first | apply Kd.R_alloc | apply Kd.R_drewN | apply Kd.R_drew)); exact HO313.out))) (below_size (by repeat (first | (with_reducible first | exact HB.out | apply below_alloc | apply pw_below_drewN | apply below_drew1 | refine below_set ?_ GE309.out) | exact HB.out)))); have n2_ := Aside0.mk (blk_below (g := gb309) (o := .cells #[.int .i64 a0_0, .int .i64 a0_1, .int .i64 a0_2, .int .i64 a0_3, .int .i64 a0_4, .slice A0_5 l0_5.length c0_5] 27 (0, 0)) (by (with_reducible repeat (first | refine blk_drewN ?_ _ | refine blk_drew ?_ | refine blk_alloc ?_ _)); exact BK309.out) hb); have n3_ := Aside0.mk (below_step (by repeat (first | (with_reducible first | exact HB.out | apply below_alloc | apply pw_below_drewN | apply below_drew1 | refine below_set ?_ GE309.out) | exact HB.out)) hb); clear HO313; clear BK309; clear HB; have HO313 := n0_; have HO317 := n1_; have BK309 := n2_; have HB := n3_; clear n0_ n1_ n2_ n3_; (try clear hb); (try clear hb2); (try clear hk); (try clear hi); (try clear ho0); obtain ⟨Ao18, co18, eo18⟩ := Kd.R_slice HO313.out; subst eo18; obtain ⟨Ao19, co19, eo19⟩ := Kd.R_slice HO317.out; subst eo19) | (go_at_call 17; (with_reducible refine (keepsakeref01_Same.calls k _ _ t311 _ _ t315 t319 _ ?side1 ?side2 ?side3 ?side4 A11.out).mono ?_); (case side1 => repeat (first | exact (Kd.R_reads' HO313.out).2.2 | (with_reducible refine Kd.C_alloc ?_ _) | (with_reducible refine Kd.C_drewN ?_ _) | (with_reducible refine Kd.C_drew ?_))); (case side2 => exact (Kd.R_reads' HO313.out).2.1); (case side3 => repeat (first | exact (Kd.R_reads' HO317.out).2.2 | (with_reducible refine Kd.C_alloc ?_ _) | (with_reducible refine Kd.C_drewN ?_ _) | (with_reducible refine Kd.C_drew ?_))); (case side4 => exact (Kd.R_reads' HO317.out).2.1); rintro e w' ⟨rfl, ⟨nd, rfl⟩⟩))
       go_ret
       exact ⟨by first | rfl | (simp [errW_none, errW_some] <;> rfl) | (simp [*, errW_none, errW_some] <;> rfl), by repeat (first | (with_reducible first | exact HB.out | apply below_alloc | apply pw_below_drewN | apply below_drew1 | refine below_set ?_ GE309.out) | exact HB.out)⟩
     · rw [if_neg c10] at H
       exact absurd H (by simp)
   · replace c9 := Bool.eq_false_iff.mpr c9
     subst c9
     have H1 : (none) = some r := by rw [if_neg (show ¬ (false = true) by decide)] at H; exact H
     clear H
     have H := H1
     clear H1
     exact absurd H (by simp)

end Go.Proofs.Ytoiiphlhdnlniaa.All
-- slimmed
