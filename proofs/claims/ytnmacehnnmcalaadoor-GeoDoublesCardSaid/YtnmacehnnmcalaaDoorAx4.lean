-- written by a program of mine (xprint_patch.py over the kit's print)
import Derived.Test.YtnmacehnnmcalaaDoorAx0
import Derived.Test.YtnmacehnnmcalaaDoorAx1
import Derived.Test.YtnmacehnnmcalaaDoorAx2
namespace Go.Proofs.YtnmacehnnmcalaaDoor.All
open Go.Proofs.YtnmacehnnmcalaaDoor.Given
open Go.RowKit Go.Proofs.YtnmacehnnmcalaaDoorW.PrintWords Go.Proofs.YtnmacehnnmcalaaDoorW.PrintLast Go.Proofs.YtnmacehnnmcalaaDoorW.PrintMore
attribute [local go_sem] max2_int min2_int max_two min_two max_three min_three max_four min_four   -- for this text's walks alone
set_option linter.unusedVariables false
set_option linter.unusedSimpArgs false

/-! ### keepsakelaw03_GeoDoubles: function 4 -/
def keepsakelaw03_GeoDoubles.f (a0 : Int) : Option (Bool) := (keepsakelaw03_awake.f).bind fun t146 => (if t146 = true then ((geo_Eeprom.f (wrap64 (2 + (wrap64 (Int.tmod a0 9))))).bind fun t147 => ((geo_Eeprom.f (wrap64 ((wrap64 (2 + (wrap64 (Int.tmod a0 9)))) - 1))).bind fun t148 => (if t147 = (wrap64 (2 * t148)) then ((geo_Page.f (wrap64 (2 + (wrap64 (Int.tmod a0 9))))).bind fun t149 => ((geo_Page.f (wrap64 ((wrap64 (2 + (wrap64 (Int.tmod a0 9)))) - 1))).bind fun t150 => (if t149 ≥ t150 then ((geo_Wide.f (wrap64 (2 + (wrap64 (Int.tmod a0 9))))).bind fun t151 => ((geo_Wide.f (wrap64 ((wrap64 (2 + (wrap64 (Int.tmod a0 9)))) - 1))).bind fun t152 => (some (decide (t151 ≥ t152))))) else (some false)))) else (some false)))) else (some false))
set_option maxHeartbeats 8000000 in
set_option maxRecDepth 100000 in
theorem keepsakelaw03_GeoDoubles.calls (a0 : Int) (r : Bool) (w : World) (hG : Laid w) (h : keepsakelaw03_GeoDoubles.f a0 = some r) :
    Calls Tryd.prog 4 #[.int .u8 a0] w fun e w' => e = .returned (.bool r) ∧ Below w.heap.size w w' := by
  have HG := Aside0.mk hG
  clear hG
  have HB := Aside0.mk (Below.refl w.heap.size w)
  have H : ((keepsakelaw03_awake.f).bind fun t146 => (if t146 = true then ((geo_Eeprom.f (wrap64 (2 + (wrap64 (Int.tmod a0 9))))).bind fun t147 => ((geo_Eeprom.f (wrap64 ((wrap64 (2 + (wrap64 (Int.tmod a0 9)))) - 1))).bind fun t148 => (if t147 = (wrap64 (2 * t148)) then ((geo_Page.f (wrap64 (2 + (wrap64 (Int.tmod a0 9))))).bind fun t149 => ((geo_Page.f (wrap64 ((wrap64 (2 + (wrap64 (Int.tmod a0 9)))) - 1))).bind fun t150 => (if t149 ≥ t150 then ((geo_Wide.f (wrap64 (2 + (wrap64 (Int.tmod a0 9))))).bind fun t151 => ((geo_Wide.f (wrap64 ((wrap64 (2 + (wrap64 (Int.tmod a0 9)))) - 1))).bind fun t152 => (some (decide (t151 ≥ t152))))) else (some false)))) else (some false)))) else (some false))) = some r := h
  clear h
  replace H := Option.bind_eq_some_iff.mp H
  obtain ⟨t146, A20, H⟩ := H
  replace H : (if t146 = true then ((geo_Eeprom.f (wrap64 (2 + (wrap64 (Int.tmod a0 9))))).bind fun t147 => ((geo_Eeprom.f (wrap64 ((wrap64 (2 + (wrap64 (Int.tmod a0 9)))) - 1))).bind fun t148 => (if t147 = (wrap64 (2 * t148)) then ((geo_Page.f (wrap64 (2 + (wrap64 (Int.tmod a0 9))))).bind fun t149 => ((geo_Page.f (wrap64 ((wrap64 (2 + (wrap64 (Int.tmod a0 9)))) - 1))).bind fun t150 => (if t149 ≥ t150 then ((geo_Wide.f (wrap64 (2 + (wrap64 (Int.tmod a0 9))))).bind fun t151 => ((geo_Wide.f (wrap64 ((wrap64 (2 + (wrap64 (Int.tmod a0 9)))) - 1))).bind fun t152 => (some (decide (t151 ≥ t152))))) else (some false)))) else (some false)))) else (some false)) = some r := H
  have A2 := Aside0.mk A20
  clear A20
  by_cases c3 : t146 = true
  · subst c3
    have H1 : ((geo_Eeprom.f (wrap64 (2 + (wrap64 (Int.tmod a0 9))))).bind fun t147 => ((geo_Eeprom.f (wrap64 ((wrap64 (2 + (wrap64 (Int.tmod a0 9)))) - 1))).bind fun t148 => (if t147 = (wrap64 (2 * t148)) then ((geo_Page.f (wrap64 (2 + (wrap64 (Int.tmod a0 9))))).bind fun t149 => ((geo_Page.f (wrap64 ((wrap64 (2 + (wrap64 (Int.tmod a0 9)))) - 1))).bind fun t150 => (if t149 ≥ t150 then ((geo_Wide.f (wrap64 (2 + (wrap64 (Int.tmod a0 9))))).bind fun t151 => ((geo_Wide.f (wrap64 ((wrap64 (2 + (wrap64 (Int.tmod a0 9)))) - 1))).bind fun t152 => (some (decide (t151 ≥ t152))))) else (some false)))) else (some false)))) = some r := by rw [if_pos rfl] at H; exact H
    clear H
    have H := H1
    clear H1
    replace H := Option.bind_eq_some_iff.mp H
    obtain ⟨t147, A40, H⟩ := H
    replace H : ((geo_Eeprom.f (wrap64 ((wrap64 (2 + (wrap64 (Int.tmod a0 9)))) - 1))).bind fun t148 => (if t147 = (wrap64 (2 * t148)) then ((geo_Page.f (wrap64 (2 + (wrap64 (Int.tmod a0 9))))).bind fun t149 => ((geo_Page.f (wrap64 ((wrap64 (2 + (wrap64 (Int.tmod a0 9)))) - 1))).bind fun t150 => (if t149 ≥ t150 then ((geo_Wide.f (wrap64 (2 + (wrap64 (Int.tmod a0 9))))).bind fun t151 => ((geo_Wide.f (wrap64 ((wrap64 (2 + (wrap64 (Int.tmod a0 9)))) - 1))).bind fun t152 => (some (decide (t151 ≥ t152))))) else (some false)))) else (some false))) = some r := H
    have A4 := Aside0.mk A40
    clear A40
    replace H := Option.bind_eq_some_iff.mp H
    obtain ⟨t148, A50, H⟩ := H
    replace H : (if t147 = (wrap64 (2 * t148)) then ((geo_Page.f (wrap64 (2 + (wrap64 (Int.tmod a0 9))))).bind fun t149 => ((geo_Page.f (wrap64 ((wrap64 (2 + (wrap64 (Int.tmod a0 9)))) - 1))).bind fun t150 => (if t149 ≥ t150 then ((geo_Wide.f (wrap64 (2 + (wrap64 (Int.tmod a0 9))))).bind fun t151 => ((geo_Wide.f (wrap64 ((wrap64 (2 + (wrap64 (Int.tmod a0 9)))) - 1))).bind fun t152 => (some (decide (t151 ≥ t152))))) else (some false)))) else (some false)) = some r := H
    have A5 := Aside0.mk A50
    clear A50
    by_cases c6 : t147 = (wrap64 (2 * t148))
    · rw [if_pos c6] at H
      have c6b0 : (t147 == (wrap64 (2 * t148))) = true := beq_iff_eq.mpr c6
      have c6b1 : (t147 != (wrap64 (2 * t148))) = false := bne_eq_false_iff_eq.mpr c6
      clear c6
      replace H := Option.bind_eq_some_iff.mp H
      obtain ⟨t149, A70, H⟩ := H
      replace H : ((geo_Page.f (wrap64 ((wrap64 (2 + (wrap64 (Int.tmod a0 9)))) - 1))).bind fun t150 => (if t149 ≥ t150 then ((geo_Wide.f (wrap64 (2 + (wrap64 (Int.tmod a0 9))))).bind fun t151 => ((geo_Wide.f (wrap64 ((wrap64 (2 + (wrap64 (Int.tmod a0 9)))) - 1))).bind fun t152 => (some (decide (t151 ≥ t152))))) else (some false))) = some r := H
      have A7 := Aside0.mk A70
      clear A70
      replace H := Option.bind_eq_some_iff.mp H
      obtain ⟨t150, A80, H⟩ := H
      replace H : (if t149 ≥ t150 then ((geo_Wide.f (wrap64 (2 + (wrap64 (Int.tmod a0 9))))).bind fun t151 => ((geo_Wide.f (wrap64 ((wrap64 (2 + (wrap64 (Int.tmod a0 9)))) - 1))).bind fun t152 => (some (decide (t151 ≥ t152))))) else (some false)) = some r := H
      have A8 := Aside0.mk A80
      clear A80
      by_cases c9 : t149 ≥ t150
      · rw [if_pos c9] at H
        have c9b0 : decide (t150 ≤ t149) = true := decide_eq_true c9
        clear c9
        replace H := Option.bind_eq_some_iff.mp H
        obtain ⟨t151, A100, H⟩ := H
        replace H : ((geo_Wide.f (wrap64 ((wrap64 (2 + (wrap64 (Int.tmod a0 9)))) - 1))).bind fun t152 => (some (decide (t151 ≥ t152)))) = some r := H
        have A10 := Aside0.mk A100
        clear A100
        replace H := Option.bind_eq_some_iff.mp H
        obtain ⟨t152, A110, H⟩ := H
        replace H : (some (decide (t151 ≥ t152))) = some r := H
        have A11 := Aside0.mk A110
        clear A110
        obtain rfl := Option.some.inj H
        go_enter Tryd.func4, Tryd.ntmps4
        go_wp2_with (first | ((with_reducible refine gate_callee (f := 8) rfl ?_); refine goesL_ (some 5) rfl rfl Tryd.func8 (by kernel_rfl) rfl #[] rfl (by (try simp only [List.map_toArray, List.map_cons, List.map_nil]); first | done | rfl | (simp only [List.length_drop, List.length_take]; rfl)) ?_; (with_reducible refine (keepsakelaw03_awake.calls  true _ ?sideG A2.out).mono ?_); (case sideG => repeat (first | exact Laid.below HG.out HB.out | exact HG.out | (with_reducible refine Laid.alloc ?_ _) | (with_reducible refine Laid.drewN ?_ _) | (with_reducible refine Laid.drew ?_))); rintro e w12 ⟨rfl, hb⟩; refine ⟨_, rfl, ?_⟩; have n0_ := Aside0.mk (below_step (by repeat (first | (with_reducible first | exact HB.out | apply below_alloc | apply pw_below_drewN | apply below_drew1) | exact HB.out)) hb); clear HB; have HB := n0_; clear n0_; (try clear hb); (try clear hb2); (try clear hk); (try clear hi)) | (go_at_call 9; (with_reducible refine (geo_Eeprom.calls (wrap64 (2 + (wrap64 (Int.tmod a0 9)))) t147 _ ?sideG A4.out).mono ?_); (case sideG => repeat (first | exact Laid.below HG.out HB.out | exact HG.out | (with_reducible refine Laid.alloc ?_ _) | (with_reducible refine Laid.drewN ?_ _) | (with_reducible refine Laid.drew ?_))); rintro e w13 ⟨rfl, hb⟩; have n0_ := Aside0.mk (below_step (by repeat (first | (with_reducible first | exact HB.out | apply below_alloc | apply pw_below_drewN | apply below_drew1) | exact HB.out)) hb); clear HB; have HB := n0_; clear n0_; (try clear hb); (try clear hb2); (try clear hk); (try clear hi)) | (go_at_call 9; (with_reducible refine (geo_Eeprom.calls (wrap64 ((wrap64 (2 + (wrap64 (Int.tmod a0 9)))) - 1)) t148 _ ?sideG A5.out).mono ?_); (case sideG => repeat (first | exact Laid.below HG.out HB.out | exact HG.out | (with_reducible refine Laid.alloc ?_ _) | (with_reducible refine Laid.drewN ?_ _) | (with_reducible refine Laid.drew ?_))); rintro e w14 ⟨rfl, hb⟩; have n0_ := Aside0.mk (below_step (by repeat (first | (with_reducible first | exact HB.out | apply below_alloc | apply pw_below_drewN | apply below_drew1) | exact HB.out)) hb); clear HB; have HB := n0_; clear n0_; (try clear hb); (try clear hb2); (try clear hk); (try clear hi)) | (go_at_call 11; (with_reducible refine (geo_Page.calls (wrap64 (2 + (wrap64 (Int.tmod a0 9)))) t149 _ ?sideG A7.out).mono ?_); (case sideG => repeat (first | exact Laid.below HG.out HB.out | exact HG.out | (with_reducible refine Laid.alloc ?_ _) | (with_reducible refine Laid.drewN ?_ _) | (with_reducible refine Laid.drew ?_))); rintro e w15 ⟨rfl, hb⟩; have n0_ := Aside0.mk (below_step (by repeat (first | (with_reducible first | exact HB.out | apply below_alloc | apply pw_below_drewN | apply below_drew1) | exact HB.out)) hb); clear HB; have HB := n0_; clear n0_; (try clear hb); (try clear hb2); (try clear hk); (try clear hi)) | (go_at_call 11; (with_reducible refine (geo_Page.calls (wrap64 ((wrap64 (2 + (wrap64 (Int.tmod a0 9)))) - 1)) t150 _ ?sideG A8.out).mono ?_); (case sideG => repeat (first | exact Laid.below HG.out HB.out | exact HG.out | (with_reducible refine Laid.alloc ?_ _) | (with_reducible refine Laid.drewN ?_ _) | (with_reducible refine Laid.drew ?_))); rintro e w16 ⟨rfl, hb⟩; have n0_ := Aside0.mk (below_step (by repeat (first | (with_reducible first | exact HB.out | apply below_alloc | apply pw_below_drewN | apply below_drew1) | exact HB.out)) hb); clear HB; have HB := n0_; clear n0_; (try clear hb); (try clear hb2); (try clear hk); (try clear hi)) | (go_at_call 13; (with_reducible refine (geo_Wide.calls (wrap64 (2 + (wrap64 (Int.tmod a0 9)))) t151 _ ?sideG A10.out).mono ?_); (case sideG => repeat (first | exact Laid.below HG.out HB.out | exact HG.out | (with_reducible refine Laid.alloc ?_ _) | (with_reducible refine Laid.drewN ?_ _) | (with_reducible refine Laid.drew ?_))); rintro e w17 ⟨rfl, hb⟩; have n0_ := Aside0.mk (below_step (by repeat (first | (with_reducible first | exact HB.out | apply below_alloc | apply pw_below_drewN | apply below_drew1) | exact HB.out)) hb); clear HB; have HB := n0_; clear n0_; (try clear hb); (try clear hb2); (try clear hk); (try clear hi)) | (go_at_call 13; (with_reducible refine (geo_Wide.calls (wrap64 ((wrap64 (2 + (wrap64 (Int.tmod a0 9)))) - 1)) t152 _ ?sideG A11.out).mono ?_); (case sideG => repeat (first | exact Laid.below HG.out HB.out | exact HG.out | (with_reducible refine Laid.alloc ?_ _) | (with_reducible refine Laid.drewN ?_ _) | (with_reducible refine Laid.drew ?_))); rintro e w18 ⟨rfl, hb⟩; have n0_ := Aside0.mk (below_step (by repeat (first | (with_reducible first | exact HB.out | apply below_alloc | apply pw_below_drewN | apply below_drew1) | exact HB.out)) hb); clear HB; have HB := n0_; clear n0_; (try clear hb); (try clear hb2); (try clear hk); (try clear hi)))
        go_ret
        exact ⟨by first | rfl | (simp [errW_none, errW_some] <;> rfl) | (simp [*, errW_none, errW_some] <;> rfl), by repeat (first | (with_reducible first | exact HB.out | apply below_alloc | apply pw_below_drewN | apply below_drew1) | exact HB.out)⟩
      · rw [if_neg c9] at H
        have c9b0 : decide (t150 ≤ t149) = false := decide_eq_false c9
        clear c9
        obtain rfl := Option.some.inj H
        go_enter Tryd.func4, Tryd.ntmps4
        go_wp2_with (first | ((with_reducible refine gate_callee (f := 8) rfl ?_); refine goesL_ (some 5) rfl rfl Tryd.func8 (by kernel_rfl) rfl #[] rfl (by (try simp only [List.map_toArray, List.map_cons, List.map_nil]); first | done | rfl | (simp only [List.length_drop, List.length_take]; rfl)) ?_; (with_reducible refine (keepsakelaw03_awake.calls  true _ ?sideG A2.out).mono ?_); (case sideG => repeat (first | exact Laid.below HG.out HB.out | exact HG.out | (with_reducible refine Laid.alloc ?_ _) | (with_reducible refine Laid.drewN ?_ _) | (with_reducible refine Laid.drew ?_))); rintro e w19 ⟨rfl, hb⟩; refine ⟨_, rfl, ?_⟩; have n0_ := Aside0.mk (below_step (by repeat (first | (with_reducible first | exact HB.out | apply below_alloc | apply pw_below_drewN | apply below_drew1) | exact HB.out)) hb); clear HB; have HB := n0_; clear n0_; (try clear hb); (try clear hb2); (try clear hk); (try clear hi)) | (go_at_call 9; (with_reducible refine (geo_Eeprom.calls (wrap64 (2 + (wrap64 (Int.tmod a0 9)))) t147 _ ?sideG A4.out).mono ?_); (case sideG => repeat (first | exact Laid.below HG.out HB.out | exact HG.out | (with_reducible refine Laid.alloc ?_ _) | (with_reducible refine Laid.drewN ?_ _) | (with_reducible refine Laid.drew ?_))); rintro e w20 ⟨rfl, hb⟩; have n0_ := Aside0.mk (below_step (by repeat (first | (with_reducible first | exact HB.out | apply below_alloc | apply pw_below_drewN | apply below_drew1) | exact HB.out)) hb); clear HB; have HB := n0_; clear n0_; (try clear hb); (try clear hb2); (try clear hk); (try clear hi)) | (go_at_call 9; (with_reducible refine (geo_Eeprom.calls (wrap64 ((wrap64 (2 + (wrap64 (Int.tmod a0 9)))) - 1)) t148 _ ?sideG A5.out).mono ?_); (case sideG => repeat (first | exact Laid.below HG.out HB.out | exact HG.out | (with_reducible refine Laid.alloc ?_ _) | (with_reducible refine Laid.drewN ?_ _) | (with_reducible refine Laid.drew ?_))); rintro e w21 ⟨rfl, hb⟩; have n0_ := Aside0.mk (below_step (by repeat (first | (with_reducible first | exact HB.out | apply below_alloc | apply pw_below_drewN | apply below_drew1) | exact HB.out)) hb); clear HB; have HB := n0_; clear n0_; (try clear hb); (try clear hb2); (try clear hk); (try clear hi)) | (go_at_call 11; (with_reducible refine (geo_Page.calls (wrap64 (2 + (wrap64 (Int.tmod a0 9)))) t149 _ ?sideG A7.out).mono ?_); (case sideG => repeat (first | exact Laid.below HG.out HB.out | exact HG.out | (with_reducible refine Laid.alloc ?_ _) | (with_reducible refine Laid.drewN ?_ _) | (with_reducible refine Laid.drew ?_))); rintro e w22 ⟨rfl, hb⟩; have n0_ := Aside0.mk (below_step (by repeat (first | (with_reducible first | exact HB.out | apply below_alloc | apply pw_below_drewN | apply below_drew1) | exact HB.out)) hb); clear HB; have HB := n0_; clear n0_; (try clear hb); (try clear hb2); (try clear hk); (try clear hi)) | (go_at_call 11; (with_reducible refine (geo_Page.calls (wrap64 ((wrap64 (2 + (wrap64 (Int.tmod a0 9)))) - 1)) t150 _ ?sideG A8.out).mono ?_); (case sideG => repeat (first | exact Laid.below HG.out HB.out | exact HG.out | (with_reducible refine Laid.alloc ?_ _) | (with_reducible refine Laid.drewN ?_ _) | (with_reducible refine Laid.drew ?_))); rintro e w23 ⟨rfl, hb⟩; have n0_ := Aside0.mk (below_step (by repeat (first | (with_reducible first | exact HB.out | apply below_alloc | apply pw_below_drewN | apply below_drew1) | exact HB.out)) hb); clear HB; have HB := n0_; clear n0_; (try clear hb); (try clear hb2); (try clear hk); (try clear hi)))
        go_ret
        exact ⟨by first | rfl | (simp [errW_none, errW_some] <;> rfl) | (simp [*, errW_none, errW_some] <;> rfl), by repeat (first | (with_reducible first | exact HB.out | apply below_alloc | apply pw_below_drewN | apply below_drew1) | exact HB.out)⟩
    · rw [if_neg c6] at H
      have c6b0 : (t147 == (wrap64 (2 * t148))) = false := beq_eq_false_iff_ne.mpr c6
      have c6b1 : (t147 != (wrap64 (2 * t148))) = true := bne_iff_ne.mpr c6
      obtain rfl := Option.some.inj H
      go_enter Tryd.func4, Tryd.ntmps4
      go_wp2_with (first | ((with_reducible refine gate_callee (f := 8) rfl ?_); refine goesL_ (some 5) rfl rfl Tryd.func8 (by kernel_rfl) rfl #[] rfl (by (try simp only [List.map_toArray, List.map_cons, List.map_nil]); first | done | rfl | (simp only [List.length_drop, List.length_take]; rfl)) ?_; (with_reducible refine (keepsakelaw03_awake.calls  true _ ?sideG A2.out).mono ?_); (case sideG => repeat (first | exact Laid.below HG.out HB.out | exact HG.out | (with_reducible refine Laid.alloc ?_ _) | (with_reducible refine Laid.drewN ?_ _) | (with_reducible refine Laid.drew ?_))); rintro e w24 ⟨rfl, hb⟩; refine ⟨_, rfl, ?_⟩; have n0_ := Aside0.mk (below_step (by repeat (first | (with_reducible first | exact HB.out | apply below_alloc | apply pw_below_drewN | apply below_drew1) | exact HB.out)) hb); clear HB; have HB := n0_; clear n0_; (try clear hb); (try clear hb2); (try clear hk); (try clear hi)) | (go_at_call 9; (with_reducible refine (geo_Eeprom.calls (wrap64 (2 + (wrap64 (Int.tmod a0 9)))) t147 _ ?sideG A4.out).mono ?_); (case sideG => repeat (first | exact Laid.below HG.out HB.out | exact HG.out | (with_reducible refine Laid.alloc ?_ _) | (with_reducible refine Laid.drewN ?_ _) | (with_reducible refine Laid.drew ?_))); rintro e w25 ⟨rfl, hb⟩; have n0_ := Aside0.mk (below_step (by repeat (first | (with_reducible first | exact HB.out | apply below_alloc | apply pw_below_drewN | apply below_drew1) | exact HB.out)) hb); clear HB; have HB := n0_; clear n0_; (try clear hb); (try clear hb2); (try clear hk); (try clear hi)) | (go_at_call 9; (with_reducible refine (geo_Eeprom.calls (wrap64 ((wrap64 (2 + (wrap64 (Int.tmod a0 9)))) - 1)) t148 _ ?sideG A5.out).mono ?_); (case sideG => repeat (first | exact Laid.below HG.out HB.out | exact HG.out | (with_reducible refine Laid.alloc ?_ _) | (with_reducible refine Laid.drewN ?_ _) | (with_reducible refine Laid.drew ?_))); rintro e w26 ⟨rfl, hb⟩; have n0_ := Aside0.mk (below_step (by repeat (first | (with_reducible first | exact HB.out | apply below_alloc | apply pw_below_drewN | apply below_drew1) | exact HB.out)) hb); clear HB; have HB := n0_; clear n0_; (try clear hb); (try clear hb2); (try clear hk); (try clear hi)))
      go_ret
      exact ⟨by first | rfl | (simp [errW_none, errW_some] <;> rfl) | (simp [*, errW_none, errW_some] <;> rfl), by repeat (first | (with_reducible first | exact HB.out | apply below_alloc | apply pw_below_drewN | apply below_drew1) | exact HB.out)⟩
  · replace c3 := Bool.eq_false_iff.mpr c3
    subst c3
    have H1 : (some false) = some r := by rw [if_neg (show ¬ (false = true) by decide)] at H; exact H
    clear H
    have H := H1
    clear H1
    obtain rfl := Option.some.inj H
    go_enter Tryd.func4, Tryd.ntmps4
    go_wp2_with (first | ((with_reducible refine gate_callee (f := 8) rfl ?_); refine goesL_ (some 5) rfl rfl Tryd.func8 (by kernel_rfl) rfl #[] rfl (by (try simp only [List.map_toArray, List.map_cons, List.map_nil]); first | done | rfl | (simp only [List.length_drop, List.length_take]; rfl)) ?_; (with_reducible refine (keepsakelaw03_awake.calls  false _ ?sideG A2.out).mono ?_); (case sideG => repeat (first | exact Laid.below HG.out HB.out | exact HG.out | (with_reducible refine Laid.alloc ?_ _) | (with_reducible refine Laid.drewN ?_ _) | (with_reducible refine Laid.drew ?_))); rintro e w27 ⟨rfl, hb⟩; refine ⟨_, rfl, ?_⟩; have n0_ := Aside0.mk (below_step (by repeat (first | (with_reducible first | exact HB.out | apply below_alloc | apply pw_below_drewN | apply below_drew1) | exact HB.out)) hb); clear HB; have HB := n0_; clear n0_; (try clear hb); (try clear hb2); (try clear hk); (try clear hi)))
    go_ret
    exact ⟨by first | rfl | (simp [errW_none, errW_some] <;> rfl) | (simp [*, errW_none, errW_some] <;> rfl), by repeat (first | (with_reducible first | exact HB.out | apply below_alloc | apply pw_below_drewN | apply below_drew1) | exact HB.out)⟩

/-- THE ONE PURE STATEMENT of keepsakelaw03_GeoDoubles: yours. -/
def keepsakelaw03_GeoDoubles.Pure : Prop := ∀ (a0 : Int), (Lit.int .u8 a0).wf = true → keepsakelaw03_GeoDoubles.f a0 = some true
theorem keepsakelaw03_GeoDoubles.walk (P : keepsakelaw03_GeoDoubles.Pure) (a0 : Int) (w : World) (hG : Laid w) (w0 : (Lit.int .u8 a0).wf = true) :
    Calls Tryd.prog 4 #[.int .u8 a0] w fun e w' => e = .returned (.bool true) ∧ Below w.heap.size w w' := by
  have h := P a0 w0
  refine (keepsakelaw03_GeoDoubles.calls a0 true w hG h).mono ?_
  rintro e w' ⟨rfl, hd⟩
  exact ⟨rfl, hd⟩

end Go.Proofs.YtnmacehnnmcalaaDoor.All
