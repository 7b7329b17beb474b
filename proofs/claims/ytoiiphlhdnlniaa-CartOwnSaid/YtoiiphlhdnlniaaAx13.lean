-- written by a program of mine (xprint_patch.py over the kit's print)
import Derived.Test.YtoiiphlhdnlniaaAx0
import Derived.Test.YtoiiphlhdnlniaaAx3
import Derived.Test.YtoiiphlhdnlniaaAx6
import Derived.Test.YtoiiphlhdnlniaaAx10
import Derived.Test.YtoiiphlhdnlniaaMade
import Derived.Test.YtoiiphlhdnlniaaParsed
namespace Go.Proofs.Ytoiiphlhdnlniaa.Given
end Go.Proofs.Ytoiiphlhdnlniaa.Given
namespace Go.Proofs.Ytoiiphlhdnlniaa.All
open Go.Proofs.Ytoiiphlhdnlniaa.Given
open Go.RowKit Go.Proofs.YtoiiphlhdnlniaaW.PrintWords Go.Proofs.YtoiiphlhdnlniaaW.PrintLast Go.Proofs.YtoiiphlhdnlniaaW.PrintMore
attribute [local go_sem] max2_int min2_int max_two min_two max_three min_three max_four min_four   -- for this text's walks alone
set_option linter.unusedVariables false
set_option linter.unusedSimpArgs false

/-! ### keepsakelaw21_CartOwn: function 7 -/
mutual
def keepsakelaw21_CartOwn.j0 : Nat → Int → Bool → List Int → List Int → List Int → Bool → Int → Int → Int → Int → Int → List Int → Int → Int → Int → Int → Int → List Int → Option (Bool)
 | 0, _, _, _, _, _, _, _, _, _, _, _, _, _, _, _, _, _, _ => none
 | k + 1, x1, x5, x6, x8, x10, x56, x422000, x422001, x422002, x422003, x422004, x422005, x442000, x442001, x442002, x442003, x442004, x442005 => if x56 = true then (none) else (keepsakelaw21_CartOwn.l0 k x1 x5 x6 x8 x10 0 x422000 x422001 x422002 x422003 x422004 x422005 x442000 x442001 x442002 x442003 x442004 x442005)
def keepsakelaw21_CartOwn.l0 : Nat → Int → Bool → List Int → List Int → List Int → Int → Int → Int → Int → Int → Int → List Int → Int → Int → Int → Int → Int → List Int → Option (Bool)
 | 0, _, _, _, _, _, _, _, _, _, _, _, _, _, _, _, _, _, _ => none
 | k + 1, x1, x5, x6, x8, x10, x13, x422000, x422001, x422002, x422003, x422004, x422005, x442000, x442001, x442002, x442003, x442004, x442005 => if x13 < 256 then (if 0 ≤ x13 then (if x13 < (x422005.length : Int) then (keepsakelaw21_CartOwn.l0 k x1 x5 x6 x8 x10 (wrap64 (x13 + 1)) x422000 x422001 x422002 x422003 x422004 (x422005.set (x13 : Int).toNat x1) x442000 x442001 x442002 x442003 x442004 x442005) else (none)) else (none)) else ((keepsakeref01_Same.f k x8 x10).bind fun t443 => (keepsakelaw21_CartOwn.l1 k x1 x5 x6 x8 t443 0 x442000 x442001 x442002 x442003 x442004 x442005))
def keepsakelaw21_CartOwn.l1 : Nat → Int → Bool → List Int → List Int → Bool → Int → Int → Int → Int → Int → Int → List Int → Option (Bool)
 | 0, _, _, _, _, _, _, _, _, _, _, _, _ => none
 | k + 1, x1, x5, x6, x8, x14, x15, x442000, x442001, x442002, x442003, x442004, x442005 => if x15 < 272 then (if 0 ≤ x15 then (if x15 < (x8.length : Int) then (keepsakelaw21_CartOwn.l1 k x1 x5 x6 (x8.set (x15 : Int).toNat x1) x14 (wrap64 (x15 + 1)) x442000 x442001 x442002 x442003 x442004 x442005) else (none)) else (none)) else (if x5 = true then (if x14 = true then ((keepsakeref01_Same.f k x442005 x6).bind fun t445 => (some t445)) else (none)) else (none))
end
def keepsakelaw21_CartOwn.f (k : Nat) (l0 : List Int) (a1 : Int) : Option (Bool) := (keepsakelaw21_awake.f).bind fun t411 => (if (l0.length : Int) > 40 then (some t411) else ((keepsakeref10_Fill.f k l0 256).bind fun t412 => ((some (([] : List Int) : List Int)).bind fun y415 => (if y415.length + t412.length < 140737488355328 then ((some (y415 ++ t412 : List Int)).bind fun y418 => ((cart_Make.f 8 1 0 0 0 y418).bind fun bt422 => ((some (([] : List Int) : List Int)).bind fun y426 => (if y426.length + bt422.1.length < 140737488355328 then ((some (y426 ++ bt422.1 : List Int)).bind fun y429 => ((cart_Parse.f bt422.1).bind fun bt432 => (if bt422.2 = 0 then (if bt432.2.2.2.2.2.2 = 0 then (if (bt422.1.length : Int) = 272 then (keepsakelaw21_CartOwn.j0 k a1 t411 t412 bt422.1 y429 ((bt432.2.2.2.2.2.1.length : Int) != 256) 8 1 0 0 0 y418 bt432.1 bt432.2.1 bt432.2.2.1 bt432.2.2.2.1 bt432.2.2.2.2.1 bt432.2.2.2.2.2.1) else (keepsakelaw21_CartOwn.j0 k a1 t411 t412 bt422.1 y429 true 8 1 0 0 0 y418 bt432.1 bt432.2.1 bt432.2.2.1 bt432.2.2.2.1 bt432.2.2.2.2.1 bt432.2.2.2.2.2.1)) else (keepsakelaw21_CartOwn.j0 k a1 t411 t412 bt422.1 y429 true 8 1 0 0 0 y418 bt432.1 bt432.2.1 bt432.2.2.1 bt432.2.2.2.1 bt432.2.2.2.2.1 bt432.2.2.2.2.2.1)) else (keepsakelaw21_CartOwn.j0 k a1 t411 t412 bt422.1 y429 true 8 1 0 0 0 y418 bt432.1 bt432.2.1 bt432.2.2.1 bt432.2.2.2.1 bt432.2.2.2.2.1 bt432.2.2.2.2.2.1)))) else (none))))) else (none)))))
theorem keepsakelaw21_CartOwn.mono_l : ∀ k, (∀ y0 y1 y2 y3 y4 y5 y6 y7 y8 y9 y10 y11 y12 y13 y14 y15 y16 y17, LeO (keepsakelaw21_CartOwn.j0 k y0 y1 y2 y3 y4 y5 y6 y7 y8 y9 y10 y11 y12 y13 y14 y15 y16 y17) (keepsakelaw21_CartOwn.j0 (k + 1) y0 y1 y2 y3 y4 y5 y6 y7 y8 y9 y10 y11 y12 y13 y14 y15 y16 y17)) ∧ (∀ y0 y1 y2 y3 y4 y5 y6 y7 y8 y9 y10 y11 y12 y13 y14 y15 y16 y17, LeO (keepsakelaw21_CartOwn.l0 k y0 y1 y2 y3 y4 y5 y6 y7 y8 y9 y10 y11 y12 y13 y14 y15 y16 y17) (keepsakelaw21_CartOwn.l0 (k + 1) y0 y1 y2 y3 y4 y5 y6 y7 y8 y9 y10 y11 y12 y13 y14 y15 y16 y17)) ∧ (∀ y0 y1 y2 y3 y4 y5 y6 y7 y8 y9 y10 y11, LeO (keepsakelaw21_CartOwn.l1 k y0 y1 y2 y3 y4 y5 y6 y7 y8 y9 y10 y11) (keepsakelaw21_CartOwn.l1 (k + 1) y0 y1 y2 y3 y4 y5 y6 y7 y8 y9 y10 y11))
 | 0 => ⟨fun _ _ _ _ _ _ _ _ _ _ _ _ _ _ _ _ _ _ r h => by simp [keepsakelaw21_CartOwn.j0] at h, fun _ _ _ _ _ _ _ _ _ _ _ _ _ _ _ _ _ _ r h => by simp [keepsakelaw21_CartOwn.l0] at h, fun _ _ _ _ _ _ _ _ _ _ _ _ r h => by simp [keepsakelaw21_CartOwn.l1] at h⟩
 | k + 1 => by
  obtain ⟨ih0, ih1, ih2⟩ := keepsakelaw21_CartOwn.mono_l k
  refine ⟨?_, ?_, ?_⟩
  · intro y0 y1 y2 y3 y4 y5 y6 y7 y8 y9 y10 y11 y12 y13 y14 y15 y16 y17
    unfold keepsakelaw21_CartOwn.j0
    repeat' first
    | (with_reducible exact ih0 _ _ _ _ _ _ _ _ _ _ _ _ _ _ _ _ _ _)
    | (with_reducible exact ih1 _ _ _ _ _ _ _ _ _ _ _ _ _ _ _ _ _ _)
    | (with_reducible exact ih2 _ _ _ _ _ _ _ _ _ _ _ _)
    | (with_reducible exact keepsakeref01_Same.mono _ _ _)
    | (with_reducible exact keepsakeref10_Fill.mono _ _ _)
    | (with_reducible exact LeO.refl _)
    | (with_reducible exact LeO.none _)
    | (with_reducible refine LeO.ite ?_ ?_)
    | (with_reducible refine LeO.bind ?_ (fun _ => ?_))
    | exact ih0 _ _ _ _ _ _ _ _ _ _ _ _ _ _ _ _ _ _
    | exact ih1 _ _ _ _ _ _ _ _ _ _ _ _ _ _ _ _ _ _
    | exact ih2 _ _ _ _ _ _ _ _ _ _ _ _
    | exact keepsakeref01_Same.mono _ _ _
    | exact keepsakeref10_Fill.mono _ _ _
    | exact LeO.none _
    | refine LeO.ite ?_ ?_
    | refine LeO.bind ?_ (fun _ => ?_)
  · intro y0 y1 y2 y3 y4 y5 y6 y7 y8 y9 y10 y11 y12 y13 y14 y15 y16 y17
    unfold keepsakelaw21_CartOwn.l0
    repeat' first
    | (with_reducible exact ih0 _ _ _ _ _ _ _ _ _ _ _ _ _ _ _ _ _ _)
    | (with_reducible exact ih1 _ _ _ _ _ _ _ _ _ _ _ _ _ _ _ _ _ _)
    | (with_reducible exact ih2 _ _ _ _ _ _ _ _ _ _ _ _)
    | (with_reducible exact keepsakeref01_Same.mono _ _ _)
    | (with_reducible exact keepsakeref10_Fill.mono _ _ _)
    | (with_reducible exact LeO.refl _)
    | (with_reducible exact LeO.none _)
    | (with_reducible refine LeO.ite ?_ ?_)
    | (with_reducible refine LeO.bind ?_ (fun _ => ?_))
    | exact ih0 _ _ _ _ _ _ _ _ _ _ _ _ _ _ _ _ _ _
    | exact ih1 _ _ _ _ _ _ _ _ _ _ _ _ _ _ _ _ _ _
    | exact ih2 _ _ _ _ _ _ _ _ _ _ _ _
    | exact keepsakeref01_Same.mono _ _ _
    | exact keepsakeref10_Fill.mono _ _ _
    | exact LeO.none _
    | refine LeO.ite ?_ ?_
    | refine LeO.bind ?_ (fun _ => ?_)
  · intro y0 y1 y2 y3 y4 y5 y6 y7 y8 y9 y10 y11
    unfold keepsakelaw21_CartOwn.l1
    repeat' first
    | (with_reducible exact ih0 _ _ _ _ _ _ _ _ _ _ _ _ _ _ _ _ _ _)
    | (with_reducible exact ih1 _ _ _ _ _ _ _ _ _ _ _ _ _ _ _ _ _ _)
    | (with_reducible exact ih2 _ _ _ _ _ _ _ _ _ _ _ _)
    | (with_reducible exact keepsakeref01_Same.mono _ _ _)
    | (with_reducible exact keepsakeref10_Fill.mono _ _ _)
    | (with_reducible exact LeO.refl _)
    | (with_reducible exact LeO.none _)
    | (with_reducible refine LeO.ite ?_ ?_)
    | (with_reducible refine LeO.bind ?_ (fun _ => ?_))
    | exact ih0 _ _ _ _ _ _ _ _ _ _ _ _ _ _ _ _ _ _
    | exact ih1 _ _ _ _ _ _ _ _ _ _ _ _ _ _ _ _ _ _
    | exact ih2 _ _ _ _ _ _ _ _ _ _ _ _
    | exact keepsakeref01_Same.mono _ _ _
    | exact keepsakeref10_Fill.mono _ _ _
    | exact LeO.none _
    | refine LeO.ite ?_ ?_
    | refine LeO.bind ?_ (fun _ => ?_)
theorem keepsakelaw21_CartOwn.mono : ∀ a0 a1 k, LeO (keepsakelaw21_CartOwn.f k a0 a1) (keepsakelaw21_CartOwn.f (k + 1) a0 a1) := by
 intro a0 a1 k
 obtain ⟨ih0, ih1, ih2⟩ := keepsakelaw21_CartOwn.mono_l k
 unfold keepsakelaw21_CartOwn.f
 repeat' first
  | (with_reducible exact ih0 _ _ _ _ _ _ _ _ _ _ _ _ _ _ _ _ _ _)
  | (with_reducible exact ih1 _ _ _ _ _ _ _ _ _ _ _ _ _ _ _ _ _ _)
  | (with_reducible exact ih2 _ _ _ _ _ _ _ _ _ _ _ _)
  | (with_reducible exact keepsakeref01_Same.mono _ _ _)
  | (with_reducible exact keepsakeref10_Fill.mono _ _ _)
  | (with_reducible exact LeO.refl _)
  | (with_reducible exact LeO.none _)
  | (with_reducible refine LeO.ite ?_ ?_)
  | (with_reducible refine LeO.bind ?_ (fun _ => ?_))
  | exact ih0 _ _ _ _ _ _ _ _ _ _ _ _ _ _ _ _ _ _
  | exact ih1 _ _ _ _ _ _ _ _ _ _ _ _ _ _ _ _ _ _
  | exact ih2 _ _ _ _ _ _ _ _ _ _ _ _
  | exact keepsakeref01_Same.mono _ _ _
  | exact keepsakeref10_Fill.mono _ _ _
  | exact LeO.none _
  | refine LeO.ite ?_ ?_
  | refine LeO.bind ?_ (fun _ => ?_)
set_option maxHeartbeats 8000000 in
set_option maxRecDepth 100000 in
theorem keepsakelaw21_CartOwn.calls (k : Nat) (A0 : Option Addr) (c0 : Nat) (l0 : List Int) (a1 : Int) (r : Bool) (w : World) (hr0 : Kd.C (Kd.int .u8) w A0 l0.length l0) (hc0 : l0.length ≤ c0) (h : keepsakelaw21_CartOwn.f k l0 a1 = some r) :
 Calls Try.prog 7 #[.slice A0 l0.length c0, .int .u8 a1] w fun e w' => e = .returned (.bool r) ∧ Below w.heap.size w w' := by
 have hu27 := Try.underlying27
 have HR0 := Aside0.mk hr0
 have HC0 := Aside0.mk hc0
 clear hr0 hc0
 have HB := Aside0.mk (Below.refl w.heap.size w)
 have H : ((keepsakelaw21_awake.f).bind fun t411 => (if (l0.length : Int) > 40 then (some t411) else ((keepsakeref10_Fill.f k l0 256).bind fun t412 => ((some (([] : List Int) : List Int)).bind fun y415 => (if y415.length + t412.length < 140737488355328 then ((some (y415 ++ t412 : List Int)).bind fun y418 => ((cart_Make.f 8 1 0 0 0 y418).bind fun bt422 => ((some (([] : List Int) : List Int)).bind fun y426 => (if y426.length + bt422.1.length < 140737488355328 then ((some (y426 ++ bt422.1 : List Int)).bind fun y429 => ((cart_Parse.f bt422.1).bind fun bt432 => (if bt422.2 = 0 then (if bt432.2.2.2.2.2.2 = 0 then (if (bt422.1.length : Int) = 272 then (keepsakelaw21_CartOwn.j0 k a1 t411 t412 bt422.1 y429 ((bt432.2.2.2.2.2.1.length : Int) != 256) 8 1 0 0 0 y418 bt432.1 bt432.2.1 bt432.2.2.1 bt432.2.2.2.1 bt432.2.2.2.2.1 bt432.2.2.2.2.2.1) else (keepsakelaw21_CartOwn.j0 k a1 t411 t412 bt422.1 y429 true 8 1 0 0 0 y418 bt432.1 bt432.2.1 bt432.2.2.1 bt432.2.2.2.1 bt432.2.2.2.2.1 bt432.2.2.2.2.2.1)) else (keepsakelaw21_CartOwn.j0 k a1 t411 t412 bt422.1 y429 true 8 1 0 0 0 y418 bt432.1 bt432.2.1 bt432.2.2.1 bt432.2.2.2.1 bt432.2.2.2.2.1 bt432.2.2.2.2.2.1)) else (keepsakelaw21_CartOwn.j0 k a1 t411 t412 bt422.1 y429 true 8 1 0 0 0 y418 bt432.1 bt432.2.1 bt432.2.2.1 bt432.2.2.2.1 bt432.2.2.2.2.1 bt432.2.2.2.2.2.1)))) else (none))))) else (none)))))) = some r := h
 clear h
 replace H := Option.bind_eq_some_iff.mp H
 obtain ⟨t411, A30, H⟩ := H
 replace H : (if (l0.length : Int) > 40 then (some t411) else ((keepsakeref10_Fill.f k l0 256).bind fun t412 => ((some (([] : List Int) : List Int)).bind fun y415 => (if y415.length + t412.length < 140737488355328 then ((some (y415 ++ t412 : List Int)).bind fun y418 => ((cart_Make.f 8 1 0 0 0 y418).bind fun bt422 => ((some (([] : List Int) : List Int)).bind fun y426 => (if y426.length + bt422.1.length < 140737488355328 then ((some (y426 ++ bt422.1 : List Int)).bind fun y429 => ((cart_Parse.f bt422.1).bind fun bt432 => (if bt422.2 = 0 then (if bt432.2.2.2.2.2.2 = 0 then (if (bt422.1.length : Int) = 272 then (keepsakelaw21_CartOwn.j0 k a1 t411 t412 bt422.1 y429 ((bt432.2.2.2.2.2.1.length : Int) != 256) 8 1 0 0 0 y418 bt432.1 bt432.2.1 bt432.2.2.1 bt432.2.2.2.1 bt432.2.2.2.2.1 bt432.2.2.2.2.2.1) else (keepsakelaw21_CartOwn.j0 k a1 t411 t412 bt422.1 y429 true 8 1 0 0 0 y418 bt432.1 bt432.2.1 bt432.2.2.1 bt432.2.2.2.1 bt432.2.2.2.2.1 bt432.2.2.2.2.2.1)) else (keepsakelaw21_CartOwn.j0 k a1 t411 t412 bt422.1 y429 true 8 1 0 0 0 y418 bt432.1 bt432.2.1 bt432.2.2.1 bt432.2.2.2.1 bt432.2.2.2.2.1 bt432.2.2.2.2.2.1)) else (keepsakelaw21_CartOwn.j0 k a1 t411 t412 bt422.1 y429 true 8 1 0 0 0 y418 bt432.1 bt432.2.1 bt432.2.2.1 bt432.2.2.2.1 bt432.2.2.2.2.1 bt432.2.2.2.2.2.1)))) else (none))))) else (none))))) = some r := H
 have A3 := Aside0.mk A30
 clear A30
 by_cases c4 : (l0.length : Int) > 40
 · rw [if_pos c4] at H
   have c4b0 : decide (40 < (l0.length : Int)) = true := decide_eq_true c4
   have c4b1 : decide (40 < l0.length) = true := decide_eq_true (by omega)
   clear c4
   obtain rfl := Option.some.inj H
   go_enter Try.func7, Try.ntmps7
   go_wp2_with (first | ((with_reducible refine gate_callee (f := 8) rfl ?_); refine goesL_ (some 16) rfl rfl Try.func8 (by kernel_rfl) rfl #[] rfl (by (try simp only [List.map_toArray, List.map_cons, List.map_nil]); first | done | rfl | (simp only [List.length_drop, List.length_take]; rfl)) ?_; (with_reducible refine (keepsakelaw21_awake.calls  t411 _ A3.out).mono ?_); rintro e w5 ⟨rfl, hb⟩; refine ⟨_, rfl, ?_⟩; have n0_ := Aside0.mk (below_step (by repeat (first | (with_reducible first | exact HB.out | apply below_alloc | apply pw_below_drewN | apply below_drew1) | exact HB.out)) hb); clear HB; have HB := n0_; clear n0_; (try clear hb); (try clear hb2); (try clear hk); (try clear hi)))
   go_ret
   exact ⟨by first | rfl | (simp [errW_none, errW_some] <;> rfl) | (simp [*, errW_none, errW_some] <;> rfl), by repeat (first | (with_reducible first | exact HB.out | apply below_alloc | apply pw_below_drewN | apply below_drew1) | exact HB.out)⟩
 · rw [if_neg c4] at H
   have c4b0 : decide (40 < (l0.length : Int)) = false := decide_eq_false c4
   have c4b1 : decide (40 < l0.length) = false := decide_eq_false (by omega)
   clear c4
   replace H := Option.bind_eq_some_iff.mp H
   obtain ⟨t412, A60, H⟩ := H
   replace H : ((some (([] : List Int) : List Int)).bind fun y415 => (if y415.length + t412.length < 140737488355328 then ((some (y415 ++ t412 : List Int)).bind fun y418 => ((cart_Make.f 8 1 0 0 0 y418).bind fun bt422 => ((some (([] : List Int) : List Int)).bind fun y426 => (if y426.length + bt422.1.length < 140737488355328 then ((some (y426 ++ bt422.1 : List Int)).bind fun y429 => ((cart_Parse.f bt422.1).bind fun bt432 => (if bt422.2 = 0 then (if bt432.2.2.2.2.2.2 = 0 then (if (bt422.1.length : Int) = 272 then (keepsakelaw21_CartOwn.j0 k a1 t411 t412 bt422.1 y429 ((bt432.2.2.2.2.2.1.length : Int) != 256) 8 1 0 0 0 y418 bt432.1 bt432.2.1 bt432.2.2.1 bt432.2.2.2.1 bt432.2.2.2.2.1 bt432.2.2.2.2.2.1) else (keepsakelaw21_CartOwn.j0 k a1 t411 t412 bt422.1 y429 true 8 1 0 0 0 y418 bt432.1 bt432.2.1 bt432.2.2.1 bt432.2.2.2.1 bt432.2.2.2.2.1 bt432.2.2.2.2.2.1)) else (keepsakelaw21_CartOwn.j0 k a1 t411 t412 bt422.1 y429 true 8 1 0 0 0 y418 bt432.1 bt432.2.1 bt432.2.2.1 bt432.2.2.2.1 bt432.2.2.2.2.1 bt432.2.2.2.2.2.1)) else (keepsakelaw21_CartOwn.j0 k a1 t411 t412 bt422.1 y429 true 8 1 0 0 0 y418 bt432.1 bt432.2.1 bt432.2.2.1 bt432.2.2.2.1 bt432.2.2.2.2.1 bt432.2.2.2.2.2.1)))) else (none))))) else (none))) = some r := H
   have A6 := Aside0.mk A60
   clear A60
   obtain ⟨y415, hy415⟩ : ∃ y_ : List Int, y_ = (([] : List Int)) := ⟨_, rfl⟩
   replace H : (if y415.length + t412.length < 140737488355328 then ((some (y415 ++ t412 : List Int)).bind fun y418 => ((cart_Make.f 8 1 0 0 0 y418).bind fun bt422 => ((some (([] : List Int) : List Int)).bind fun y426 => (if y426.length + bt422.1.length < 140737488355328 then ((some (y426 ++ bt422.1 : List Int)).bind fun y429 => ((cart_Parse.f bt422.1).bind fun bt432 => (if bt422.2 = 0 then (if bt432.2.2.2.2.2.2 = 0 then (if (bt422.1.length : Int) = 272 then (keepsakelaw21_CartOwn.j0 k a1 t411 t412 bt422.1 y429 ((bt432.2.2.2.2.2.1.length : Int) != 256) 8 1 0 0 0 y418 bt432.1 bt432.2.1 bt432.2.2.1 bt432.2.2.2.1 bt432.2.2.2.2.1 bt432.2.2.2.2.2.1) else (keepsakelaw21_CartOwn.j0 k a1 t411 t412 bt422.1 y429 true 8 1 0 0 0 y418 bt432.1 bt432.2.1 bt432.2.2.1 bt432.2.2.2.1 bt432.2.2.2.2.1 bt432.2.2.2.2.2.1)) else (keepsakelaw21_CartOwn.j0 k a1 t411 t412 bt422.1 y429 true 8 1 0 0 0 y418 bt432.1 bt432.2.1 bt432.2.2.1 bt432.2.2.2.1 bt432.2.2.2.2.1 bt432.2.2.2.2.2.1)) else (keepsakelaw21_CartOwn.j0 k a1 t411 t412 bt422.1 y429 true 8 1 0 0 0 y418 bt432.1 bt432.2.1 bt432.2.2.1 bt432.2.2.2.1 bt432.2.2.2.2.1 bt432.2.2.2.2.2.1)))) else (none))))) else (none)) = some r := by first | (rw [hy415]; with_reducible exact H) | (have H2_ := (Option.bind_some _ _).symm.trans H; rw [hy415]; with_reducible exact H2_) | (have H2_ := (Option.bind_some _ _).symm.trans H; with_reducible exact H2_) | with_reducible exact H | (rw [hy415]; exact H) | exact H
   have Ny415 := Aside0.mk hy415
   clear hy415
   by_cases c7 : y415.length + t412.length < 140737488355328
   · rw [if_pos c7] at H
     have LMc7 := Aside0.mk c7
     clear c7
     obtain ⟨y418, hy418⟩ : ∃ y_ : List Int, y_ = (y415 ++ t412) := ⟨_, rfl⟩
     replace H : ((cart_Make.f 8 1 0 0 0 y418).bind fun bt422 => ((some (([] : List Int) : List Int)).bind fun y426 => (if y426.length + bt422.1.length < 140737488355328 then ((some (y426 ++ bt422.1 : List Int)).bind fun y429 => ((cart_Parse.f bt422.1).bind fun bt432 => (if bt422.2 = 0 then (if bt432.2.2.2.2.2.2 = 0 then (if (bt422.1.length : Int) = 272 then (keepsakelaw21_CartOwn.j0 k a1 t411 t412 bt422.1 y429 ((bt432.2.2.2.2.2.1.length : Int) != 256) 8 1 0 0 0 y418 bt432.1 bt432.2.1 bt432.2.2.1 bt432.2.2.2.1 bt432.2.2.2.2.1 bt432.2.2.2.2.2.1) else (keepsakelaw21_CartOwn.j0 k a1 t411 t412 bt422.1 y429 true 8 1 0 0 0 y418 bt432.1 bt432.2.1 bt432.2.2.1 bt432.2.2.2.1 bt432.2.2.2.2.1 bt432.2.2.2.2.2.1)) else (keepsakelaw21_CartOwn.j0 k a1 t411 t412 bt422.1 y429 true 8 1 0 0 0 y418 bt432.1 bt432.2.1 bt432.2.2.1 bt432.2.2.2.1 bt432.2.2.2.2.1 bt432.2.2.2.2.2.1)) else (keepsakelaw21_CartOwn.j0 k a1 t411 t412 bt422.1 y429 true 8 1 0 0 0 y418 bt432.1 bt432.2.1 bt432.2.2.1 bt432.2.2.2.1 bt432.2.2.2.2.1 bt432.2.2.2.2.2.1)))) else (none)))) = some r := by first | (rw [hy418]; with_reducible exact H) | (have H2_ := (Option.bind_some _ _).symm.trans H; rw [hy418]; with_reducible exact H2_) | (have H2_ := (Option.bind_some _ _).symm.trans H; with_reducible exact H2_) | with_reducible exact H | (rw [hy418]; exact H) | exact H
     have Ny418 := Aside0.mk hy418
     clear hy418
     replace H := Option.bind_eq_some_iff.mp H
     obtain ⟨⟨t422, t425⟩, A80, H⟩ := H
     replace H : ((some (([] : List Int) : List Int)).bind fun y426 => (if y426.length + t422.length < 140737488355328 then ((some (y426 ++ t422 : List Int)).bind fun y429 => ((cart_Parse.f t422).bind fun bt432 => (if t425 = 0 then (if bt432.2.2.2.2.2.2 = 0 then (if (t422.length : Int) = 272 then (keepsakelaw21_CartOwn.j0 k a1 t411 t412 t422 y429 ((bt432.2.2.2.2.2.1.length : Int) != 256) 8 1 0 0 0 y418 bt432.1 bt432.2.1 bt432.2.2.1 bt432.2.2.2.1 bt432.2.2.2.2.1 bt432.2.2.2.2.2.1) else (keepsakelaw21_CartOwn.j0 k a1 t411 t412 t422 y429 true 8 1 0 0 0 y418 bt432.1 bt432.2.1 bt432.2.2.1 bt432.2.2.2.1 bt432.2.2.2.2.1 bt432.2.2.2.2.2.1)) else (keepsakelaw21_CartOwn.j0 k a1 t411 t412 t422 y429 true 8 1 0 0 0 y418 bt432.1 bt432.2.1 bt432.2.2.1 bt432.2.2.2.1 bt432.2.2.2.2.1 bt432.2.2.2.2.2.1)) else (keepsakelaw21_CartOwn.j0 k a1 t411 t412 t422 y429 true 8 1 0 0 0 y418 bt432.1 bt432.2.1 bt432.2.2.1 bt432.2.2.2.1 bt432.2.2.2.2.1 bt432.2.2.2.2.2.1)))) else (none))) = some r := H
     have A8 := Aside0.mk A80
     clear A80
     obtain ⟨y426, hy426⟩ : ∃ y_ : List Int, y_ = (([] : List Int)) := ⟨_, rfl⟩
     replace H : (if y426.length + t422.length < 140737488355328 then ((some (y426 ++ t422 : List Int)).bind fun y429 => ((cart_Parse.f t422).bind fun bt432 => (if t425 = 0 then (if bt432.2.2.2.2.2.2 = 0 then (if (t422.length : Int) = 272 then (keepsakelaw21_CartOwn.j0 k a1 t411 t412 t422 y429 ((bt432.2.2.2.2.2.1.length : Int) != 256) 8 1 0 0 0 y418 bt432.1 bt432.2.1 bt432.2.2.1 bt432.2.2.2.1 bt432.2.2.2.2.1 bt432.2.2.2.2.2.1) else (keepsakelaw21_CartOwn.j0 k a1 t411 t412 t422 y429 true 8 1 0 0 0 y418 bt432.1 bt432.2.1 bt432.2.2.1 bt432.2.2.2.1 bt432.2.2.2.2.1 bt432.2.2.2.2.2.1)) else (keepsakelaw21_CartOwn.j0 k a1 t411 t412 t422 y429 true 8 1 0 0 0 y418 bt432.1 bt432.2.1 bt432.2.2.1 bt432.2.2.2.1 bt432.2.2.2.2.1 bt432.2.2.2.2.2.1)) else (keepsakelaw21_CartOwn.j0 k a1 t411 t412 t422 y429 true 8 1 0 0 0 y418 bt432.1 bt432.2.1 bt432.2.2.1 bt432.2.2.2.1 bt432.2.2.2.2.1 bt432.2.2.2.2.2.1)))) else (none)) = some r := by first | (rw [hy426]; with_reducible exact H) | (have H2_ := (Option.bind_some _ _).symm.trans H; rw [hy426]; with_reducible exact H2_) | (have H2_ := (Option.bind_some _ _).symm.trans H; with_reducible exact H2_) | with_reducible exact H | (rw [hy426]; exact H) | exact H
     have Ny426 := Aside0.mk hy426
     clear hy426
     by_cases c9 : y426.length + t422.length < 140737488355328
     · rw [if_pos c9] at H
       have LMc9 := Aside0.mk c9
       clear c9
       obtain ⟨y429, hy429⟩ : ∃ y_ : List Int, y_ = (y426 ++ t422) := ⟨_, rfl⟩
       replace H : ((cart_Parse.f t422).bind fun bt432 => (if t425 = 0 then (if bt432.2.2.2.2.2.2 = 0 then (if (t422.length : Int) = 272 then (keepsakelaw21_CartOwn.j0 k a1 t411 t412 t422 y429 ((bt432.2.2.2.2.2.1.length : Int) != 256) 8 1 0 0 0 y418 bt432.1 bt432.2.1 bt432.2.2.1 bt432.2.2.2.1 bt432.2.2.2.2.1 bt432.2.2.2.2.2.1) else (keepsakelaw21_CartOwn.j0 k a1 t411 t412 t422 y429 true 8 1 0 0 0 y418 bt432.1 bt432.2.1 bt432.2.2.1 bt432.2.2.2.1 bt432.2.2.2.2.1 bt432.2.2.2.2.2.1)) else (keepsakelaw21_CartOwn.j0 k a1 t411 t412 t422 y429 true 8 1 0 0 0 y418 bt432.1 bt432.2.1 bt432.2.2.1 bt432.2.2.2.1 bt432.2.2.2.2.1 bt432.2.2.2.2.2.1)) else (keepsakelaw21_CartOwn.j0 k a1 t411 t412 t422 y429 true 8 1 0 0 0 y418 bt432.1 bt432.2.1 bt432.2.2.1 bt432.2.2.2.1 bt432.2.2.2.2.1 bt432.2.2.2.2.2.1))) = some r := by first | (rw [hy429]; with_reducible exact H) | (have H2_ := (Option.bind_some _ _).symm.trans H; rw [hy429]; with_reducible exact H2_) | (have H2_ := (Option.bind_some _ _).symm.trans H; with_reducible exact H2_) | with_reducible exact H | (rw [hy429]; exact H) | exact H
       have Ny429 := Aside0.mk hy429
       clear hy429
       replace H := Option.bind_eq_some_iff.mp H
       obtain ⟨⟨t432, t433, t434, t435, t436, t437, t440⟩, A100, H⟩ := H
       replace H : (if t425 = 0 then (if t440 = 0 then (if (t422.length : Int) = 272 then (keepsakelaw21_CartOwn.j0 k a1 t411 t412 t422 y429 ((t437.length : Int) != 256) 8 1 0 0 0 y418 t432 t433 t434 t435 t436 t437) else (keepsakelaw21_CartOwn.j0 k a1 t411 t412 t422 y429 true 8 1 0 0 0 y418 t432 t433 t434 t435 t436 t437)) else (keepsakelaw21_CartOwn.j0 k a1 t411 t412 t422 y429 true 8 1 0 0 0 y418 t432 t433 t434 t435 t436 t437)) else (keepsakelaw21_CartOwn.j0 k a1 t411 t412 t422 y429 true 8 1 0 0 0 y418 t432 t433 t434 t435 t436 t437)) = some r := H
       have A10 := Aside0.mk A100
       clear A100
       have HC11 := Aside0.mk H
       clear H
       go_enter Try.func7, Try.ntmps7
       go_upto_region 9 with (first | ((with_reducible refine gate_callee (f := 8) rfl ?_); refine goesL_ (some 16) rfl rfl Try.func8 (by kernel_rfl) rfl #[] rfl (by (try simp only [List.map_toArray, List.map_cons, List.map_nil]); first | done | rfl | (simp only [List.length_drop, List.length_take]; rfl)) ?_; (with_reducible refine (keepsakelaw21_awake.calls  t411 _ A3.out).mono ?_); rintro e w12 ⟨rfl, hb⟩; refine ⟨_, rfl, ?_⟩; have n0_ := Aside0.mk (below_step (by repeat (first | (with_reducible first | exact HB.out | apply below_alloc | apply pw_below_drewN | apply below_drew1) | exact HB.out)) hb); clear HB; have HB := n0_; clear n0_; (try clear hb); (try clear hb2); (try clear hk); (try clear hi)) | ((with_reducible refine gate_callee (f := 18) rfl ?_); refine goesL_ (some 22) rfl rfl Try.func18 (by kernel_rfl) rfl #[.slice A0 l0.length c0, .int .i64 256] rfl (by (try simp only [List.map_toArray, List.map_cons, List.map_nil]); first | done | rfl | (simp only [List.length_drop, List.length_take]; rfl)) ?_; (with_reducible refine (keepsakeref10_Fill.calls k _ _ l0 256 t412 _ ?side1 ?side2 A6.out).mono ?_); (case side1 => repeat (first | exact (Kd.C_below HR0.out HB.out) | (with_reducible refine Kd.C_alloc ?_ _) | (with_reducible refine Kd.C_drewN ?_ _) | (with_reducible refine Kd.C_drew ?_))); (case side2 => exact HC0.out); rintro e w13 ⟨v413, rfl, ho0, hb⟩; refine ⟨_, rfl, ?_⟩; have n0_ := Aside0.mk (Kd.R_lower ho0 (below_size (by repeat (first | (with_reducible first | exact HB.out | apply below_alloc | apply pw_below_drewN | apply below_drew1) | exact HB.out)))); have n1_ := Aside0.mk (below_step (by repeat (first | (with_reducible first | exact HB.out | apply below_alloc | apply pw_below_drewN | apply below_drew1) | exact HB.out)) hb); clear HB; have HO414 := n0_; have HB := n1_; clear n0_ n1_; (try clear hb); (try clear hb2); (try clear hk); (try clear hi); (try clear ho0)) | ((with_reducible refine gate_dst (N := 23) rfl ?_); (try (refine gate_guard (by rfl) ?_; dsimp only)); refine Kd.R_lit (Kd.int .u8) _ 5 ?hg (N := 23) ?hd (xs := ([] : List Int)) (inner := []) (ok := fun _ => True) (okp := fun _ => True) ?hr ?hp (fun _ hk => hk) trivial (Below.refl _ _) (Nat.le_refl _) (by simp) ?_; (case hd => rfl); (case hg => rfl); (case hr => first | (go_simp; done) | (go_simp; rfl)); (case hp => exact (Reps.none _ _)); intro v416 w14 ho15 hb hg_ hnew_; clear hg_ hnew_; (first | rw [← Ny415.out] at ho15 | (simp only [Int.reduceToNat] at ho15; rw [← Ny415.out] at ho15)); have n0_ := Aside0.mk (Kd.R_elder' (by (with_reducible repeat (first | apply Kd.R_alloc | apply Kd.R_drewN | apply Kd.R_drew)); exact HO414.out) (Kd.R_base ho15) hb); have n1_ := Aside0.mk (Kd.R_lower (Kd.R_new' ho15 (Kd.R_lt (by (with_reducible repeat (first | apply Kd.R_alloc | apply Kd.R_drewN | apply Kd.R_drew)); exact HO414.out))) (below_size (by repeat (first | (with_reducible first | exact HB.out | apply below_alloc | apply pw_below_drewN | apply below_drew1) | exact HB.out)))); have n2_ := Aside0.mk (below_step (by repeat (first | (with_reducible first | exact HB.out | apply below_alloc | apply pw_below_drewN | apply below_drew1) | exact HB.out)) hb); clear HO414; clear HB; have HO414 := n0_; have HO417 := n1_; have HB := n2_; clear n0_ n1_ n2_; clear hb ho15; obtain ⟨Ao17, co17, eo17⟩ := Kd.R_slice HO414.out; subst eo17) | ((with_reducible refine gate_builtin (b := .append) (xs := #[.tmp 23, .tmp 24]) rfl ?_); (try (refine gate_guard (by rfl) ?_; dsimp only)); at_builtin; refine Kd.R_append_rows (Kd.int .u8) (w0 := w) w.heap.size rfl (.tmp 23) (.tmp 24) 22 5 (.int .u8 0) 1 rfl Try.underlying22 info5 rfl (by decide) (by omega) v416 y415 t412 _ _ _ (fun k_ => some k_ ≠ (.slice Ao17 t412.length co17 : Value).ownBlock) (fun _ => False) rfl rfl ?aO ?aR (fun _ _ h => h) (fun _ h => h.elim) ?aF ?aB ?aS ?aL ?_; (case aR => repeat (first | exact (Kd.R_reads' HO414.out).2.2 | (with_reducible refine Kd.C_alloc ?_ _) | (with_reducible refine Kd.C_drewN ?_ _) | (with_reducible refine Kd.C_drew ?_))); (case aB => exact (by repeat (first | (with_reducible first | exact HB.out | apply below_alloc | apply pw_below_drewN | apply below_drew1) | exact HB.out))); (case aF => exact (fun k_ hk => Kd.fresh' (Kd.R_lt (by (with_reducible repeat (first | apply Kd.R_alloc | apply Kd.R_drewN | apply Kd.R_drew)); exact HO414.out)) k_ hk)); (case aO => exact (by (with_reducible repeat (first | apply Kd.R_alloc | apply Kd.R_drewN | apply Kd.R_drew)); exact Kd.R_mono HO417.out (fun _ hk => hk.2))); (case aS => exact (below_size (by repeat (first | (with_reducible first | exact HB.out | apply below_alloc | apply pw_below_drewN | apply below_drew1) | exact HB.out)))); (case aL => have := LMc7.out; omega); intro v419 w16 ho hb hg hat; (first | rw [← Ny418.out] at ho | (simp only [Int.reduceToNat] at ho; rw [← Ny418.out] at ho)); have n0_ := Aside0.mk (Kd.R_after (ok := (fun _ => True)) (by (with_reducible repeat (first | apply Kd.R_alloc | apply Kd.R_drewN | apply Kd.R_drew)); exact HO414.out) hg hat); have n1_ := Aside0.mk (hb); have n2_ := Aside0.mk (ho); clear HO414; clear HB; clear HO417; have HO414 := n0_; have HB := n1_; have HO420 := n2_; clear n0_ n1_ n2_; clear ho hb hg hat; obtain ⟨Ao18, co18, eo18⟩ := Kd.R_slice HO420.out; subst eo18) | ((with_reducible refine gate_dst (N := 7) rfl ?_); (try (refine gate_guard (by rfl) ?_; dsimp only)); refine box_event ?hg (N := 7) ?hd (cs := #[.int .i64 0, .int .i64 0, .int .i64 0, .int .i64 0, .int .i64 0, .slice none 0 0]) (t := 27) ?hr ?_; (case hd => rfl); (case hg => rfl); (case hr => first | (go_simp; done) | (go_simp; rfl)); intro gb421 hg w19 hbox hb; have n0_ := Aside0.mk (Kd.R_below (by (with_reducible repeat (first | apply Kd.R_alloc | apply Kd.R_drewN | apply Kd.R_drew)); exact HO414.out) hb); have n1_ := Aside0.mk (Kd.R_below (by (with_reducible repeat (first | apply Kd.R_alloc | apply Kd.R_drewN | apply Kd.R_drew)); exact HO420.out) hb); have n2_ := Aside0.mk (below_step (by repeat (first | (with_reducible first | exact HB.out | apply below_alloc | apply pw_below_drewN | apply below_drew1) | exact HB.out)) hb); have n3_ := Aside0.mk (hbox); have n4_ := Aside0.mk ((by rw [hg]; exact (below_size (by repeat (first | (with_reducible first | exact HB.out | apply below_alloc | apply pw_below_drewN | apply below_drew1) | exact HB.out))) : w.heap.size ≤ gb421)); have n5_ := Aside0.mk ((by rw [hg]; exact (below_size (by repeat (first | (with_reducible first | exact HB.out | apply below_alloc | apply pw_below_drewN | apply below_drew1) | exact HB.out))) : w.heap.size ≤ gb421)); clear HO414; clear HO420; clear HB; have HO414 := n0_; have HO420 := n1_; have HB := n2_; have BK421 := n3_; have GW421 := n4_; have GE421 := n5_; clear n0_ n1_ n2_ n3_ n4_ n5_; clear hb hbox hg; have hcz20_0 : w19.cell? ⟨gb421, 0, none⟩ = some (.int .i64 0) := (blk_cell BK421.out 0).trans rfl; have hcz20_1 : w19.cell? ⟨gb421, 1, none⟩ = some (.int .i64 0) := (blk_cell BK421.out 1).trans rfl; have hcz20_2 : w19.cell? ⟨gb421, 2, none⟩ = some (.int .i64 0) := (blk_cell BK421.out 2).trans rfl; have hcz20_3 : w19.cell? ⟨gb421, 3, none⟩ = some (.int .i64 0) := (blk_cell BK421.out 3).trans rfl; have hcz20_4 : w19.cell? ⟨gb421, 4, none⟩ = some (.int .i64 0) := (blk_cell BK421.out 4).trans rfl; have hcz20_5 : w19.cell? ⟨gb421, 5, none⟩ = some (.slice none 0 0) := (blk_cell BK421.out 5).trans rfl; have hfz20_0 := blk_frozen BK421.out 0; have hfz20_1 := blk_frozen BK421.out 1; have hfz20_2 := blk_frozen BK421.out 2; have hfz20_3 := blk_frozen BK421.out 3; have hfz20_4 := blk_frozen BK421.out 4; have hfz20_5 := blk_frozen BK421.out 5) | ((with_reducible refine gate_callee (f := 15) rfl ?_); refine goesL_ (some 29) rfl rfl Try.func15 (by kernel_rfl) rfl #[.agg #[.int .i64 8, .int .i64 1, .int .i64 0, .int .i64 0, .int .i64 0, .slice Ao18 y418.length co18]] rfl (by (try simp only [List.map_toArray, List.map_cons, List.map_nil]); first | done | rfl | (simp only [List.length_drop, List.length_take]; rfl)) ?_; (with_reducible refine (cart_Make.calls 8 1 0 0 0 _ _ y418 t422 t425 _ ?side1 ?side2 A8.out).mono ?_); (case side1 => refine (Kd.R_reads' (e := 5) (base := w.heap.size) (ok := fun k_ => some k_ ≠ (.slice Ao17 t412.length co17 : Value).ownBlock) (n := y418.length) (c := co18) ?_).2.2; exact (by (with_reducible repeat (first | apply Kd.R_alloc | apply Kd.R_drewN | apply Kd.R_drew)); exact (Kd.R_mono (Kd.R_far (p := ⟨gb421, 5, none⟩) (Kd.R_far (p := ⟨gb421, 4, none⟩) (Kd.R_far (p := ⟨gb421, 3, none⟩) (Kd.R_far (p := ⟨gb421, 2, none⟩) (Kd.R_far (p := ⟨gb421, 1, none⟩) (Kd.R_far (p := ⟨gb421, 0, none⟩) (Kd.R_types HO420.out BK421.out (by decide)) (fun _ hk => hk.2) (.int .i64 8)) (fun _ hk => hk.2) (.int .i64 1)) (fun _ hk => hk.2) (.int .i64 0)) (fun _ hk => hk.2) (.int .i64 0)) (fun _ hk => hk.2) (.int .i64 0)) (fun _ hk => hk.2) (.slice Ao18 y418.length co18)) (fun _ h_ => h_.1)))); (case side2 => exact (Kd.R_reads' HO420.out).2.1); rintro e w21 ⟨v423, rfl, ho0, hb⟩; refine ⟨_, rfl, ?_⟩; have n0_ := Aside0.mk (Kd.R_elder' (by (with_reducible repeat (first | apply Kd.R_alloc | apply Kd.R_drewN | apply Kd.R_drew)); exact (Kd.R_mono (Kd.R_far (p := ⟨gb421, 5, none⟩) (Kd.R_far (p := ⟨gb421, 4, none⟩) (Kd.R_far (p := ⟨gb421, 3, none⟩) (Kd.R_far (p := ⟨gb421, 2, none⟩) (Kd.R_far (p := ⟨gb421, 1, none⟩) (Kd.R_far (p := ⟨gb421, 0, none⟩) (Kd.R_types HO414.out BK421.out (by decide)) (fun _ hk => hk.2) (.int .i64 8)) (fun _ hk => hk.2) (.int .i64 1)) (fun _ hk => hk.2) (.int .i64 0)) (fun _ hk => hk.2) (.int .i64 0)) (fun _ hk => hk.2) (.int .i64 0)) (fun _ hk => hk.2) (.slice Ao18 y418.length co18)) (fun _ h_ => h_.1))) (Kd.R_base ho0) hb); have n1_ := Aside0.mk (Kd.R_elder' (by (with_reducible repeat (first | apply Kd.R_alloc | apply Kd.R_drewN | apply Kd.R_drew)); exact (Kd.R_mono (Kd.R_far (p := ⟨gb421, 5, none⟩) (Kd.R_far (p := ⟨gb421, 4, none⟩) (Kd.R_far (p := ⟨gb421, 3, none⟩) (Kd.R_far (p := ⟨gb421, 2, none⟩) (Kd.R_far (p := ⟨gb421, 1, none⟩) (Kd.R_far (p := ⟨gb421, 0, none⟩) (Kd.R_types HO420.out BK421.out (by decide)) (fun _ hk => hk.2) (.int .i64 8)) (fun _ hk => hk.2) (.int .i64 1)) (fun _ hk => hk.2) (.int .i64 0)) (fun _ hk => hk.2) (.int .i64 0)) (fun _ hk => hk.2) (.int .i64 0)) (fun _ hk => hk.2) (.slice Ao18 y418.length co18)) (fun _ h_ => h_.1))) (Kd.R_base ho0) hb); have n2_ := Aside0.mk (Kd.R_lower (Kd.R_new' (Kd.R_new' ho0 (Kd.R_lt (by (with_reducible repeat (first | apply Kd.R_alloc | apply Kd.R_drewN | apply Kd.R_drew)); exact (Kd.R_mono (Kd.R_far (p := ⟨gb421, 5, none⟩) (Kd.R_far (p := ⟨gb421, 4, none⟩) (Kd.R_far (p := ⟨gb421, 3, none⟩) (Kd.R_far (p := ⟨gb421, 2, none⟩) (Kd.R_far (p := ⟨gb421, 1, none⟩) (Kd.R_far (p := ⟨gb421, 0, none⟩) (Kd.R_types HO414.out BK421.out (by decide)) (fun _ hk => hk.2) (.int .i64 8)) (fun _ hk => hk.2) (.int .i64 1)) (fun _ hk => hk.2) (.int .i64 0)) (fun _ hk => hk.2) (.int .i64 0)) (fun _ hk => hk.2) (.int .i64 0)) (fun _ hk => hk.2) (.slice Ao18 y418.length co18)) (fun _ h_ => h_.1))))) (Kd.R_lt (by (with_reducible repeat (first | apply Kd.R_alloc | apply Kd.R_drewN | apply Kd.R_drew)); exact (Kd.R_mono (Kd.R_far (p := ⟨gb421, 5, none⟩) (Kd.R_far (p := ⟨gb421, 4, none⟩) (Kd.R_far (p := ⟨gb421, 3, none⟩) (Kd.R_far (p := ⟨gb421, 2, none⟩) (Kd.R_far (p := ⟨gb421, 1, none⟩) (Kd.R_far (p := ⟨gb421, 0, none⟩) (Kd.R_types HO420.out BK421.out (by decide)) (fun _ hk => hk.2) (.int .i64 8)) (fun _ hk => hk.2) (.int .i64 1)) (fun _ hk => hk.2) (.int .i64 0)) (fun _ hk => hk.2) (.int .i64 0)) (fun _ hk => hk.2) (.int .i64 0)) (fun _ hk => hk.2) (.slice Ao18 y418.length co18)) (fun _ h_ => h_.1))))) (below_size (by repeat (first | (with_reducible first | exact HB.out | apply below_alloc | apply pw_below_drewN | apply below_drew1 | refine below_set ?_ GE421.out) | exact HB.out)))); have n3_ := Aside0.mk (blk_below (g := gb421) (o := .cells #[.int .i64 8, .int .i64 1, .int .i64 0, .int .i64 0, .int .i64 0, .slice Ao18 y418.length co18] 27 (0, 0)) (by (with_reducible repeat (first | refine blk_drewN ?_ _ | refine blk_drew ?_ | refine blk_alloc ?_ _)); refine blk_put (cs := #[.int .i64 8, .int .i64 1, .int .i64 0, .int .i64 0, .int .i64 0, .slice none 0 0]) ?_ 5 _ rfl; (with_reducible repeat (first | refine blk_drewN ?_ _ | refine blk_drew ?_ | refine blk_alloc ?_ _)); refine blk_put (cs := #[.int .i64 8, .int .i64 1, .int .i64 0, .int .i64 0, .int .i64 0, .slice none 0 0]) ?_ 4 _ rfl; (with_reducible repeat (first | refine blk_drewN ?_ _ | refine blk_drew ?_ | refine blk_alloc ?_ _)); refine blk_put (cs := #[.int .i64 8, .int .i64 1, .int .i64 0, .int .i64 0, .int .i64 0, .slice none 0 0]) ?_ 3 _ rfl; (with_reducible repeat (first | refine blk_drewN ?_ _ | refine blk_drew ?_ | refine blk_alloc ?_ _)); refine blk_put (cs := #[.int .i64 8, .int .i64 1, .int .i64 0, .int .i64 0, .int .i64 0, .slice none 0 0]) ?_ 2 _ rfl; (with_reducible repeat (first | refine blk_drewN ?_ _ | refine blk_drew ?_ | refine blk_alloc ?_ _)); refine blk_put (cs := #[.int .i64 8, .int .i64 0, .int .i64 0, .int .i64 0, .int .i64 0, .slice none 0 0]) ?_ 1 _ rfl; (with_reducible repeat (first | refine blk_drewN ?_ _ | refine blk_drew ?_ | refine blk_alloc ?_ _)); refine blk_put (cs := #[.int .i64 0, .int .i64 0, .int .i64 0, .int .i64 0, .int .i64 0, .slice none 0 0]) ?_ 0 _ rfl; (with_reducible repeat (first | refine blk_drewN ?_ _ | refine blk_drew ?_ | refine blk_alloc ?_ _)); exact BK421.out) hb); have n4_ := Aside0.mk (below_step (by repeat (first | (with_reducible first | exact HB.out | apply below_alloc | apply pw_below_drewN | apply below_drew1 | refine below_set ?_ GE421.out) | exact HB.out)) hb); clear HO414; clear HO420; clear BK421; clear HB; have HO414 := n0_; have HO420 := n1_; have HO424 := n2_; have BK421 := n3_; have HB := n4_; clear n0_ n1_ n2_ n3_ n4_; (try clear hb); (try clear hb2); (try clear hk); (try clear hi); (try clear ho0)) | ((with_reducible refine gate_dst (N := 32) rfl ?_); (try (refine gate_guard (by rfl) ?_; dsimp only)); refine Kd.R_lit (Kd.int .u8) _ 5 ?hg (N := 32) ?hd (xs := ([] : List Int)) (inner := []) (ok := fun _ => True) (okp := fun _ => True) ?hr ?hp (fun _ hk => hk) trivial (Below.refl _ _) (Nat.le_refl _) (by simp) ?_; (case hd => rfl); (case hg => rfl); (case hr => first | (go_simp; done) | (go_simp; rfl)); (case hp => exact (Reps.none _ _)); intro v427 w22 ho23 hb hg_ hnew_; clear hg_ hnew_; (first | rw [← Ny426.out] at ho23 | (simp only [Int.reduceToNat] at ho23; rw [← Ny426.out] at ho23)); have n0_ := Aside0.mk (Kd.R_elder' (by (with_reducible repeat (first | apply Kd.R_alloc | apply Kd.R_drewN | apply Kd.R_drew)); exact HO414.out) (Kd.R_base ho23) hb); have n1_ := Aside0.mk (Kd.R_elder' (by (with_reducible repeat (first | apply Kd.R_alloc | apply Kd.R_drewN | apply Kd.R_drew)); exact HO420.out) (Kd.R_base ho23) hb); have n2_ := Aside0.mk (Kd.R_elder' (by (with_reducible repeat (first | apply Kd.R_alloc | apply Kd.R_drewN | apply Kd.R_drew)); exact HO424.out) (Kd.R_base ho23) hb); have n3_ := Aside0.mk (Kd.R_lower (Kd.R_new' (Kd.R_new' (Kd.R_new' ho23 (Kd.R_lt (by (with_reducible repeat (first | apply Kd.R_alloc | apply Kd.R_drewN | apply Kd.R_drew)); exact HO414.out))) (Kd.R_lt (by (with_reducible repeat (first | apply Kd.R_alloc | apply Kd.R_drewN | apply Kd.R_drew)); exact HO420.out))) (Kd.R_lt (by (with_reducible repeat (first | apply Kd.R_alloc | apply Kd.R_drewN | apply Kd.R_drew)); exact HO424.out))) (below_size (by repeat (first | (with_reducible first | exact HB.out | apply below_alloc | apply pw_below_drewN | apply below_drew1 | refine below_set ?_ GE421.out) | exact HB.out)))); have n4_ := Aside0.mk (blk_below (g := gb421) (o := .cells #[.int .i64 8, .int .i64 1, .int .i64 0, .int .i64 0, .int .i64 0, .slice Ao18 y418.length co18] 27 (0, 0)) (by (with_reducible repeat (first | refine blk_drewN ?_ _ | refine blk_drew ?_ | refine blk_alloc ?_ _)); exact BK421.out) hb); have n5_ := Aside0.mk (below_step (by repeat (first | (with_reducible first | exact HB.out | apply below_alloc | apply pw_below_drewN | apply below_drew1 | refine below_set ?_ GE421.out) | exact HB.out)) hb); clear HO414; clear HO420; clear HO424; clear BK421; clear HB; have HO414 := n0_; have HO420 := n1_; have HO424 := n2_; have HO428 := n3_; have BK421 := n4_; have HB := n5_; clear n0_ n1_ n2_ n3_ n4_ n5_; clear hb ho23; obtain ⟨Ao25, co25, eo25⟩ := Kd.R_slice HO424.out; subst eo25) | ((with_reducible refine gate_builtin (b := .append) (xs := #[.tmp 32, .tmp 33]) rfl ?_); (try (refine gate_guard (by rfl) ?_; dsimp only)); at_builtin; refine Kd.R_append_rows (Kd.int .u8) (w0 := w) w.heap.size rfl (.tmp 32) (.tmp 33) 22 5 (.int .u8 0) 1 rfl Try.underlying22 info5 rfl (by decide) (by omega) v427 y426 t422 _ _ _ (fun k_ => some k_ ≠ (.slice Ao17 t412.length co17 : Value).ownBlock ∧ some k_ ≠ (.slice Ao18 y418.length co18 : Value).ownBlock ∧ some k_ ≠ (.slice Ao25 t422.length co25 : Value).ownBlock) (fun _ => False) rfl rfl ?aO ?aR (fun _ _ h => h) (fun _ h => h.elim) ?aF ?aB ?aS ?aL ?_; (case aR => repeat (first | exact (Kd.R_reads' HO424.out).2.2 | (with_reducible refine Kd.C_alloc ?_ _) | (with_reducible refine Kd.C_drewN ?_ _) | (with_reducible refine Kd.C_drew ?_))); (case aB => exact (by repeat (first | (with_reducible first | exact HB.out | apply below_alloc | apply pw_below_drewN | apply below_drew1 | refine below_set ?_ GE421.out) | exact HB.out))); (case aF => exact (fun k_ hk => ⟨Kd.fresh' (Kd.R_lt (by (with_reducible repeat (first | apply Kd.R_alloc | apply Kd.R_drewN | apply Kd.R_drew)); exact HO414.out)) k_ hk, Kd.fresh' (Kd.R_lt (by (with_reducible repeat (first | apply Kd.R_alloc | apply Kd.R_drewN | apply Kd.R_drew)); exact HO420.out)) k_ hk, Kd.fresh' (Kd.R_lt (by (with_reducible repeat (first | apply Kd.R_alloc | apply Kd.R_drewN | apply Kd.R_drew)); exact HO424.out)) k_ hk⟩)); (case aO => exact (by (with_reducible repeat (first | apply Kd.R_alloc | apply Kd.R_drewN | apply Kd.R_drew)); exact Kd.R_mono HO428.out (fun _ hk => ⟨hk.1.1.2, ⟨hk.1.2, hk.2⟩⟩))); (case aS => exact (below_size (by repeat (first | (with_reducible first | exact HB.out | apply below_alloc | apply pw_below_drewN | apply below_drew1 | refine below_set ?_ GE421.out) | exact HB.out)))); (case aL => have := LMc9.out; omega); intro v430 w24 ho hb hg hat; (first | rw [← Ny429.out] at ho | (simp only [Int.reduceToNat] at ho; rw [← Ny429.out] at ho)); have n0_ := Aside0.mk (Kd.R_after (ok := (fun k_ => some k_ ≠ (.slice Ao18 y418.length co18 : Value).ownBlock ∧ some k_ ≠ (.slice Ao25 t422.length co25 : Value).ownBlock)) (by (with_reducible repeat (first | apply Kd.R_alloc | apply Kd.R_drewN | apply Kd.R_drew)); exact Kd.R_mono HO414.out (fun _ hk => ⟨⟨hk.1.1.2, hk.1.2⟩, hk.2⟩)) hg hat); have n1_ := Aside0.mk (Kd.R_after (ok := (fun k_ => some k_ ≠ (.slice Ao17 t412.length co17 : Value).ownBlock ∧ some k_ ≠ (.slice Ao25 t422.length co25 : Value).ownBlock)) (by (with_reducible repeat (first | apply Kd.R_alloc | apply Kd.R_drewN | apply Kd.R_drew)); exact HO420.out) hg hat); have n2_ := Aside0.mk (blk_grown (g := gb421) (o := .cells #[.int .i64 8, .int .i64 1, .int .i64 0, .int .i64 0, .int .i64 0, .slice Ao18 y418.length co18] 27 (0, 0)) (by (with_reducible repeat (first | refine blk_drewN ?_ _ | refine blk_drew ?_ | refine blk_alloc ?_ _)); exact BK421.out) hg (Kd.R_ne HO428.out BK421.out (by decide))); have n3_ := Aside0.mk (Kd.R_after (ok := (fun k_ => some k_ ≠ (.slice Ao17 t412.length co17 : Value).ownBlock ∧ some k_ ≠ (.slice Ao18 y418.length co18 : Value).ownBlock)) (by (with_reducible repeat (first | apply Kd.R_alloc | apply Kd.R_drewN | apply Kd.R_drew)); exact Kd.R_mono HO424.out (fun _ hk => ⟨⟨hk.1.1.2, hk.1.2⟩, hk.2⟩)) hg hat); have n4_ := Aside0.mk (hb); have n5_ := Aside0.mk (ho); clear HO414; clear HO420; clear BK421; clear HO424; clear HB; clear HO428; have HO414 := n0_; have HO420 := n1_; have BK421 := n2_; have HO424 := n3_; have HB := n4_; have HO431 := n5_; clear n0_ n1_ n2_ n3_ n4_ n5_; clear ho hb hg hat) | ((with_reducible refine gate_callee (f := 9) rfl ?_); refine goesL_ (some 37) rfl rfl Try.func9 (by kernel_rfl) rfl #[.slice Ao25 t422.length co25] rfl (by (try simp only [List.map_toArray, List.map_cons, List.map_nil]); first | done | rfl | (simp only [List.length_drop, List.length_take]; rfl)) ?_; (with_reducible refine (cart_Parse.calls _ _ t422 t432 t433 t434 t435 t436 t437 t440 _ ?side1 ?side2 A10.out).mono ?_); (case side1 => repeat (first | exact (Kd.R_reads' HO424.out).2.2 | (with_reducible refine Kd.C_alloc ?_ _) | (with_reducible refine Kd.C_drewN ?_ _) | (with_reducible refine Kd.C_drew ?_))); (case side2 => exact (Kd.R_reads' HO424.out).2.1); rintro e w26 ⟨v438, rfl, ho0, hb⟩; refine ⟨_, rfl, ?_⟩; have n0_ := Aside0.mk (Kd.R_elder' (by (with_reducible repeat (first | apply Kd.R_alloc | apply Kd.R_drewN | apply Kd.R_drew)); exact HO414.out) (Kd.R_base ho0) hb); have n1_ := Aside0.mk (Kd.R_elder' (by (with_reducible repeat (first | apply Kd.R_alloc | apply Kd.R_drewN | apply Kd.R_drew)); exact HO420.out) (Kd.R_base ho0) hb); have n2_ := Aside0.mk (Kd.R_elder' (by (with_reducible repeat (first | apply Kd.R_alloc | apply Kd.R_drewN | apply Kd.R_drew)); exact HO424.out) (Kd.R_base ho0) hb); have n3_ := Aside0.mk (Kd.R_elder' (by (with_reducible repeat (first | apply Kd.R_alloc | apply Kd.R_drewN | apply Kd.R_drew)); exact HO431.out) (Kd.R_base ho0) hb); have n4_ := Aside0.mk (Kd.R_lower (Kd.R_new' (Kd.R_new' (Kd.R_new' (Kd.R_new' ho0 (Kd.R_lt (by (with_reducible repeat (first | apply Kd.R_alloc | apply Kd.R_drewN | apply Kd.R_drew)); exact HO414.out))) (Kd.R_lt (by (with_reducible repeat (first | apply Kd.R_alloc | apply Kd.R_drewN | apply Kd.R_drew)); exact HO420.out))) (Kd.R_lt (by (with_reducible repeat (first | apply Kd.R_alloc | apply Kd.R_drewN | apply Kd.R_drew)); exact HO424.out))) (Kd.R_lt (by (with_reducible repeat (first | apply Kd.R_alloc | apply Kd.R_drewN | apply Kd.R_drew)); exact HO431.out))) (below_size (by repeat (first | (with_reducible first | exact HB.out | apply below_alloc | apply pw_below_drewN | apply below_drew1 | refine below_set ?_ GE421.out) | exact HB.out)))); have n5_ := Aside0.mk (blk_below (g := gb421) (o := .cells #[.int .i64 8, .int .i64 1, .int .i64 0, .int .i64 0, .int .i64 0, .slice Ao18 y418.length co18] 27 (0, 0)) (by (with_reducible repeat (first | refine blk_drewN ?_ _ | refine blk_drew ?_ | refine blk_alloc ?_ _)); exact BK421.out) hb); have n6_ := Aside0.mk (below_step (by repeat (first | (with_reducible first | exact HB.out | apply below_alloc | apply pw_below_drewN | apply below_drew1 | refine below_set ?_ GE421.out) | exact HB.out)) hb); clear HO414; clear HO420; clear HO424; clear HO431; clear BK421; clear HB; have HO414 := n0_; have HO420 := n1_; have HO424 := n2_; have HO431 := n3_; have HO439 := n4_; have BK421 := n5_; have HB := n6_; clear n0_ n1_ n2_ n3_ n4_ n5_ n6_; (try clear hb); (try clear hb2); (try clear hk); (try clear hi); (try clear ho0)) | ((with_reducible refine gate_dst (N := 11) rfl ?_); (try (refine gate_guard (by rfl) ?_; dsimp only)); refine box_event ?hg (N := 11) ?hd (cs := #[.int .i64 0, .int .i64 0, .int .i64 0, .int .i64 0, .int .i64 0, .slice none 0 0]) (t := 27) ?hr ?_; (case hd => rfl); (case hg => rfl); (case hr => first | (go_simp; done) | (go_simp; rfl)); intro gb441 hg w27 hbox hb; have n0_ := Aside0.mk (Kd.R_below (by (with_reducible repeat (first | apply Kd.R_alloc | apply Kd.R_drewN | apply Kd.R_drew)); exact HO414.out) hb); have n1_ := Aside0.mk (Kd.R_below (by (with_reducible repeat (first | apply Kd.R_alloc | apply Kd.R_drewN | apply Kd.R_drew)); exact HO420.out) hb); have n2_ := Aside0.mk (Kd.R_below (by (with_reducible repeat (first | apply Kd.R_alloc | apply Kd.R_drewN | apply Kd.R_drew)); exact HO424.out) hb); have n3_ := Aside0.mk (Kd.R_below (by (with_reducible repeat (first | apply Kd.R_alloc | apply Kd.R_drewN | apply Kd.R_drew)); exact HO431.out) hb); have n4_ := Aside0.mk (Kd.R_below (by (with_reducible repeat (first | apply Kd.R_alloc | apply Kd.R_drewN | apply Kd.R_drew)); exact HO439.out) hb); have n5_ := Aside0.mk (blk_below (g := gb421) (o := .cells #[.int .i64 8, .int .i64 1, .int .i64 0, .int .i64 0, .int .i64 0, .slice Ao18 y418.length co18] 27 (0, 0)) (by (with_reducible repeat (first | refine blk_drewN ?_ _ | refine blk_drew ?_ | refine blk_alloc ?_ _)); exact BK421.out) hb); have n6_ := Aside0.mk (below_step (by repeat (first | (with_reducible first | exact HB.out | apply below_alloc | apply pw_below_drewN | apply below_drew1 | refine below_set ?_ GE421.out) | exact HB.out)) hb); have n7_ := Aside0.mk (hbox); have n8_ := Aside0.mk ((by rw [hg]; exact (below_size (by repeat (first | (with_reducible first | exact HB.out | apply below_alloc | apply pw_below_drewN | apply below_drew1 | refine below_set ?_ GE421.out) | exact HB.out))) : w.heap.size ≤ gb441)); have n9_ := Aside0.mk ((by rw [hg]; exact (below_size (by repeat (first | (with_reducible first | exact HB.out | apply below_alloc | apply pw_below_drewN | apply below_drew1 | refine below_set ?_ GE421.out) | exact HB.out))) : w.heap.size ≤ gb441)); have n10_ := Aside0.mk ((by rw [hg]; exact Nat.ne_of_lt (blk_lt (g := gb421) (o := .cells #[.int .i64 8, .int .i64 1, .int .i64 0, .int .i64 0, .int .i64 0, .slice Ao18 y418.length co18] 27 (0, 0)) (by (with_reducible repeat (first | refine blk_drewN ?_ _ | refine blk_drew ?_ | refine blk_alloc ?_ _)); exact BK421.out)) : gb421 ≠ gb441)); have n11_ := Aside0.mk ((by rw [hg]; exact Nat.ne_of_gt (blk_lt (g := gb421) (o := .cells #[.int .i64 8, .int .i64 1, .int .i64 0, .int .i64 0, .int .i64 0, .slice Ao18 y418.length co18] 27 (0, 0)) (by (with_reducible repeat (first | refine blk_drewN ?_ _ | refine blk_drew ?_ | refine blk_alloc ?_ _)); exact BK421.out)) : gb441 ≠ gb421)); clear HO414; clear HO420; clear HO424; clear HO431; clear HO439; clear BK421; clear HB; have HO414 := n0_; have HO420 := n1_; have HO424 := n2_; have HO431 := n3_; have HO439 := n4_; have BK421 := n5_; have HB := n6_; have BK441 := n7_; have GW441 := n8_; have GE441 := n9_; have NB421_441 := n10_; have NB441_421 := n11_; clear n0_ n1_ n2_ n3_ n4_ n5_ n6_ n7_ n8_ n9_ n10_ n11_; clear hb hbox hg; have hnb28 := NB441_421.out; have hnc28 := NB421_441.out; have hcz29_0 : w27.cell? ⟨gb441, 0, none⟩ = some (.int .i64 0) := (blk_cell BK441.out 0).trans rfl; have hcz29_1 : w27.cell? ⟨gb441, 1, none⟩ = some (.int .i64 0) := (blk_cell BK441.out 1).trans rfl; have hcz29_2 : w27.cell? ⟨gb441, 2, none⟩ = some (.int .i64 0) := (blk_cell BK441.out 2).trans rfl; have hcz29_3 : w27.cell? ⟨gb441, 3, none⟩ = some (.int .i64 0) := (blk_cell BK441.out 3).trans rfl; have hcz29_4 : w27.cell? ⟨gb441, 4, none⟩ = some (.int .i64 0) := (blk_cell BK441.out 4).trans rfl; have hcz29_5 : w27.cell? ⟨gb441, 5, none⟩ = some (.slice none 0 0) := (blk_cell BK441.out 5).trans rfl; have hfz29_0 := blk_frozen BK441.out 0; have hfz29_1 := blk_frozen BK441.out 1; have hfz29_2 := blk_frozen BK441.out 2; have hfz29_3 := blk_frozen BK441.out 3; have hfz29_4 := blk_frozen BK441.out 4; have hfz29_5 := blk_frozen BK441.out 5; obtain ⟨Ao30, co30, eo30⟩ := Kd.R_slice HO439.out; subst eo30))
       (try simp only [Act.put, List.setIfInBounds_toArray, List.set_cons_zero, List.set_cons_succ])
       go_cut [56] (fun v56 wc => ∃ (kq : Nat) (x56_10 : Bool), v56 = .bool x56_10 ∧ Aside0 (keepsakelaw21_CartOwn.j0 kq a1 t411 t412 t422 y429 x56_10 8 1 0 0 0 y418 t432 t433 t434 t435 t436 t437 = some r) ∧ Aside0 (kq ≤ k) ∧ Aside0 (Kd.R (Kd.int .u8) 5 wc w.heap.size (fun k_ => some k_ ≠ ((.slice Ao25 t422.length co25) : Value).ownBlock ∧ some k_ ≠ (v430 : Value).ownBlock ∧ some k_ ≠ ((.slice Ao18 y418.length co18) : Value).ownBlock ∧ some k_ ≠ ((.slice Ao30 t437.length co30) : Value).ownBlock) (.slice Ao17 t412.length co17) t412) ∧ Aside0 (Kd.R (Kd.int .u8) 5 wc w.heap.size (fun k_ => some k_ ≠ ((.slice Ao17 t412.length co17) : Value).ownBlock ∧ some k_ ≠ (v430 : Value).ownBlock ∧ some k_ ≠ ((.slice Ao18 y418.length co18) : Value).ownBlock ∧ some k_ ≠ ((.slice Ao30 t437.length co30) : Value).ownBlock) (.slice Ao25 t422.length co25) t422) ∧ Aside0 (Kd.R (Kd.int .u8) 5 wc w.heap.size (fun k_ => some k_ ≠ ((.slice Ao17 t412.length co17) : Value).ownBlock ∧ some k_ ≠ ((.slice Ao25 t422.length co25) : Value).ownBlock ∧ some k_ ≠ ((.slice Ao18 y418.length co18) : Value).ownBlock ∧ some k_ ≠ ((.slice Ao30 t437.length co30) : Value).ownBlock) v430 y429) ∧ Aside0 (Kd.R (Kd.int .u8) 5 wc w.heap.size (fun k_ => some k_ ≠ ((.slice Ao17 t412.length co17) : Value).ownBlock ∧ some k_ ≠ ((.slice Ao25 t422.length co25) : Value).ownBlock ∧ some k_ ≠ (v430 : Value).ownBlock ∧ some k_ ≠ ((.slice Ao30 t437.length co30) : Value).ownBlock) (.slice Ao18 y418.length co18) y418) ∧ Aside0 (Kd.R (Kd.int .u8) 5 wc w.heap.size (fun k_ => some k_ ≠ ((.slice Ao17 t412.length co17) : Value).ownBlock ∧ some k_ ≠ ((.slice Ao25 t422.length co25) : Value).ownBlock ∧ some k_ ≠ (v430 : Value).ownBlock ∧ some k_ ≠ ((.slice Ao18 y418.length co18) : Value).ownBlock) (.slice Ao30 t437.length co30) t437) ∧ Aside0 (wc.heap[gb421]? = some (.cells #[.int .i64 8, .int .i64 1, .int .i64 0, .int .i64 0, .int .i64 0, (.slice Ao18 y418.length co18)] 27 (0, 0))) ∧ Aside0 (wc.heap[gb441]? = some (.cells #[.int .i64 t432, .int .i64 t433, .int .i64 t434, .int .i64 t435, .int .i64 t436, (.slice Ao30 t437.length co30)] 27 (0, 0))) ∧ Aside0 (Below w.heap.size w wc))
       case first =>
        have H := HC11.out
        clear HC11
        by_cases c31 : t425 = 0
        · rw [if_pos c31] at H
          have c31b0 : (t425 == 0) = true := beq_iff_eq.mpr c31
          have c31b1 : (t425 != 0) = false := bne_eq_false_iff_eq.mpr c31
          clear c31
          (first | rw [c31b0] | (simp only [i64_w, i32_w]; rw [c31b0]) | skip)
          by_cases c32 : t440 = 0
          · rw [if_pos c32] at H
            have c32b0 : (t440 == 0) = true := beq_iff_eq.mpr c32
            have c32b1 : (t440 != 0) = false := bne_eq_false_iff_eq.mpr c32
            clear c32
            by_cases c33 : (t422.length : Int) = 272
            · rw [if_pos c33] at H
              have c33b0 : ((t422.length : Int) == 272) = true := beq_iff_eq.mpr c33
              have c33b1 : ((t422.length : Int) != 272) = false := bne_eq_false_iff_eq.mpr c33
              clear c33
              have H' := Aside0.mk H
              clear H
              have hnb34 := NB441_421.out
              have hnc34 := NB421_441.out
              have hcz35_0 : w27.cell? ⟨gb441, 0, none⟩ = some (.int .i64 0) := (blk_cell BK441.out 0).trans rfl
              have hcz35_1 : w27.cell? ⟨gb441, 1, none⟩ = some (.int .i64 0) := (blk_cell BK441.out 1).trans rfl
              have hcz35_2 : w27.cell? ⟨gb441, 2, none⟩ = some (.int .i64 0) := (blk_cell BK441.out 2).trans rfl
              have hcz35_3 : w27.cell? ⟨gb441, 3, none⟩ = some (.int .i64 0) := (blk_cell BK441.out 3).trans rfl
              have hcz35_4 : w27.cell? ⟨gb441, 4, none⟩ = some (.int .i64 0) := (blk_cell BK441.out 4).trans rfl
              have hcz35_5 : w27.cell? ⟨gb441, 5, none⟩ = some (.slice none 0 0) := (blk_cell BK441.out 5).trans rfl
              have hfz35_0 := blk_frozen BK441.out 0
              have hfz35_1 := blk_frozen BK441.out 1
              have hfz35_2 := blk_frozen BK441.out 2
              have hfz35_3 := blk_frozen BK441.out 3
              have hfz35_4 := blk_frozen BK441.out 4
              have hfz35_5 := blk_frozen BK441.out 5
              go_wp2
              go_meet
              case rel => exact ⟨_, (((t437.length : Int) != 256)), (by first | rfl | (simp; done) | (simp [*]; done) | (simp; omega)), H', ⟨by first | omega | exact Nat.le_refl _⟩, ⟨by (with_reducible repeat (first | apply Kd.R_alloc | apply Kd.R_drewN | apply Kd.R_drew)); exact Kd.R_mono (Kd.R_far (p := ⟨gb441, 5, none⟩) (Kd.R_far (p := ⟨gb441, 4, none⟩) (Kd.R_far (p := ⟨gb441, 3, none⟩) (Kd.R_far (p := ⟨gb441, 2, none⟩) (Kd.R_far (p := ⟨gb441, 1, none⟩) (Kd.R_far (p := ⟨gb441, 0, none⟩) (Kd.R_types HO414.out BK441.out (by decide)) (fun _ hk => hk.2) (.int .i64 t432)) (fun _ hk => hk.2) (.int .i64 t433)) (fun _ hk => hk.2) (.int .i64 t434)) (fun _ hk => hk.2) (.int .i64 t435)) (fun _ hk => hk.2) (.int .i64 t436)) (fun _ hk => hk.2) (.slice Ao30 t437.length co30)) (fun _ hk => ⟨hk.1.1.1.2, ⟨hk.1.1.2, ⟨hk.1.1.1.1, hk.1.2⟩⟩⟩)⟩, ⟨by (with_reducible repeat (first | apply Kd.R_alloc | apply Kd.R_drewN | apply Kd.R_drew)); exact Kd.R_mono (Kd.R_far (p := ⟨gb441, 5, none⟩) (Kd.R_far (p := ⟨gb441, 4, none⟩) (Kd.R_far (p := ⟨gb441, 3, none⟩) (Kd.R_far (p := ⟨gb441, 2, none⟩) (Kd.R_far (p := ⟨gb441, 1, none⟩) (Kd.R_far (p := ⟨gb441, 0, none⟩) (Kd.R_types HO424.out BK441.out (by decide)) (fun _ hk => hk.2) (.int .i64 t432)) (fun _ hk => hk.2) (.int .i64 t433)) (fun _ hk => hk.2) (.int .i64 t434)) (fun _ hk => hk.2) (.int .i64 t435)) (fun _ hk => hk.2) (.int .i64 t436)) (fun _ hk => hk.2) (.slice Ao30 t437.length co30)) (fun _ hk => ⟨hk.1.1.1.1, ⟨hk.1.1.2, ⟨hk.1.1.1.2, hk.1.2⟩⟩⟩)⟩, ⟨by (with_reducible repeat (first | apply Kd.R_alloc | apply Kd.R_drewN | apply Kd.R_drew)); exact Kd.R_mono (Kd.R_far (p := ⟨gb441, 5, none⟩) (Kd.R_far (p := ⟨gb441, 4, none⟩) (Kd.R_far (p := ⟨gb441, 3, none⟩) (Kd.R_far (p := ⟨gb441, 2, none⟩) (Kd.R_far (p := ⟨gb441, 1, none⟩) (Kd.R_far (p := ⟨gb441, 0, none⟩) (Kd.R_types HO431.out BK441.out (by decide)) (fun _ hk => hk.2) (.int .i64 t432)) (fun _ hk => hk.2) (.int .i64 t433)) (fun _ hk => hk.2) (.int .i64 t434)) (fun _ hk => hk.2) (.int .i64 t435)) (fun _ hk => hk.2) (.int .i64 t436)) (fun _ hk => hk.2) (.slice Ao30 t437.length co30)) (fun _ hk => ⟨hk.1.1.1, ⟨hk.1.1.2.2, ⟨hk.1.1.2.1, hk.1.2⟩⟩⟩)⟩, ⟨by (with_reducible repeat (first | apply Kd.R_alloc | apply Kd.R_drewN | apply Kd.R_drew)); exact Kd.R_mono (Kd.R_far (p := ⟨gb441, 5, none⟩) (Kd.R_far (p := ⟨gb441, 4, none⟩) (Kd.R_far (p := ⟨gb441, 3, none⟩) (Kd.R_far (p := ⟨gb441, 2, none⟩) (Kd.R_far (p := ⟨gb441, 1, none⟩) (Kd.R_far (p := ⟨gb441, 0, none⟩) (Kd.R_types HO420.out BK441.out (by decide)) (fun _ hk => hk.2) (.int .i64 t432)) (fun _ hk => hk.2) (.int .i64 t433)) (fun _ hk => hk.2) (.int .i64 t434)) (fun _ hk => hk.2) (.int .i64 t435)) (fun _ hk => hk.2) (.int .i64 t436)) (fun _ hk => hk.2) (.slice Ao30 t437.length co30)) (fun _ hk => ⟨hk.1.1.1.1, ⟨hk.1.1.1.2, ⟨hk.1.1.2, hk.1.2⟩⟩⟩)⟩, ⟨by (with_reducible repeat (first | apply Kd.R_alloc | apply Kd.R_drewN | apply Kd.R_drew)); exact Kd.R_mono (Kd.R_far (p := ⟨gb441, 5, none⟩) (Kd.R_far (p := ⟨gb441, 4, none⟩) (Kd.R_far (p := ⟨gb441, 3, none⟩) (Kd.R_far (p := ⟨gb441, 2, none⟩) (Kd.R_far (p := ⟨gb441, 1, none⟩) (Kd.R_far (p := ⟨gb441, 0, none⟩) (Kd.R_types HO439.out BK441.out (by decide)) (fun _ hk => hk.2) (.int .i64 t432)) (fun _ hk => hk.2) (.int .i64 t433)) (fun _ hk => hk.2) (.int .i64 t434)) (fun _ hk => hk.2) (.int .i64 t435)) (fun _ hk => hk.2) (.int .i64 t436)) (fun _ hk => hk.2) (.slice Ao30 t437.length co30)) (fun _ hk => ⟨hk.1.1.1.1.2, ⟨hk.1.1.2, ⟨hk.1.2, hk.1.1.1.2⟩⟩⟩)⟩, ⟨by (with_reducible repeat (first | refine blk_drewN ?_ _ | refine blk_drew ?_ | refine blk_alloc ?_ _)); refine blk_far ?_ NB421_441.out _; (with_reducible repeat (first | refine blk_drewN ?_ _ | refine blk_drew ?_ | refine blk_alloc ?_ _)); refine blk_far ?_ NB421_441.out _; (with_reducible repeat (first | refine blk_drewN ?_ _ | refine blk_drew ?_ | refine blk_alloc ?_ _)); refine blk_far ?_ NB421_441.out _; (with_reducible repeat (first | refine blk_drewN ?_ _ | refine blk_drew ?_ | refine blk_alloc ?_ _)); refine blk_far ?_ NB421_441.out _; (with_reducible repeat (first | refine blk_drewN ?_ _ | refine blk_drew ?_ | refine blk_alloc ?_ _)); refine blk_far ?_ NB421_441.out _; (with_reducible repeat (first | refine blk_drewN ?_ _ | refine blk_drew ?_ | refine blk_alloc ?_ _)); refine blk_far ?_ NB421_441.out _; (with_reducible repeat (first | refine blk_drewN ?_ _ | refine blk_drew ?_ | refine blk_alloc ?_ _)); exact BK421.out⟩, ⟨by (with_reducible repeat (first | refine blk_drewN ?_ _ | refine blk_drew ?_ | refine blk_alloc ?_ _)); refine blk_put (cs := #[.int .i64 t432, .int .i64 t433, .int .i64 t434, .int .i64 t435, .int .i64 t436, .slice none 0 0]) ?_ 5 _ rfl; (with_reducible repeat (first | refine blk_drewN ?_ _ | refine blk_drew ?_ | refine blk_alloc ?_ _)); refine blk_put (cs := #[.int .i64 t432, .int .i64 t433, .int .i64 t434, .int .i64 t435, .int .i64 0, .slice none 0 0]) ?_ 4 _ rfl; (with_reducible repeat (first | refine blk_drewN ?_ _ | refine blk_drew ?_ | refine blk_alloc ?_ _)); refine blk_put (cs := #[.int .i64 t432, .int .i64 t433, .int .i64 t434, .int .i64 0, .int .i64 0, .slice none 0 0]) ?_ 3 _ rfl; (with_reducible repeat (first | refine blk_drewN ?_ _ | refine blk_drew ?_ | refine blk_alloc ?_ _)); refine blk_put (cs := #[.int .i64 t432, .int .i64 t433, .int .i64 0, .int .i64 0, .int .i64 0, .slice none 0 0]) ?_ 2 _ rfl; (with_reducible repeat (first | refine blk_drewN ?_ _ | refine blk_drew ?_ | refine blk_alloc ?_ _)); refine blk_put (cs := #[.int .i64 t432, .int .i64 0, .int .i64 0, .int .i64 0, .int .i64 0, .slice none 0 0]) ?_ 1 _ rfl; (with_reducible repeat (first | refine blk_drewN ?_ _ | refine blk_drew ?_ | refine blk_alloc ?_ _)); refine blk_put (cs := #[.int .i64 0, .int .i64 0, .int .i64 0, .int .i64 0, .int .i64 0, .slice none 0 0]) ?_ 0 _ rfl; (with_reducible repeat (first | refine blk_drewN ?_ _ | refine blk_drew ?_ | refine blk_alloc ?_ _)); exact BK441.out⟩, ⟨by repeat (first | (with_reducible first | exact HB.out | apply below_alloc | apply pw_below_drewN | apply below_drew1 | refine below_set ?_ GE421.out | refine below_set ?_ GE441.out) | exact HB.out)⟩⟩
            · rw [if_neg c33] at H
              have c33b0 : ((t422.length : Int) == 272) = false := beq_eq_false_iff_ne.mpr c33
              have c33b1 : ((t422.length : Int) != 272) = true := bne_iff_ne.mpr c33
              have H' := Aside0.mk H
              clear H
              go_wp2
              go_meet
              case rel => exact ⟨_, (true), (by first | rfl | (simp; done) | (simp [*]; done) | (simp; omega)), H', ⟨by first | omega | exact Nat.le_refl _⟩, ⟨by (with_reducible repeat (first | apply Kd.R_alloc | apply Kd.R_drewN | apply Kd.R_drew)); exact Kd.R_mono (Kd.R_far (p := ⟨gb441, 5, none⟩) (Kd.R_far (p := ⟨gb441, 4, none⟩) (Kd.R_far (p := ⟨gb441, 3, none⟩) (Kd.R_far (p := ⟨gb441, 2, none⟩) (Kd.R_far (p := ⟨gb441, 1, none⟩) (Kd.R_far (p := ⟨gb441, 0, none⟩) (Kd.R_types HO414.out BK441.out (by decide)) (fun _ hk => hk.2) (.int .i64 t432)) (fun _ hk => hk.2) (.int .i64 t433)) (fun _ hk => hk.2) (.int .i64 t434)) (fun _ hk => hk.2) (.int .i64 t435)) (fun _ hk => hk.2) (.int .i64 t436)) (fun _ hk => hk.2) (.slice Ao30 t437.length co30)) (fun _ hk => ⟨hk.1.1.1.2, ⟨hk.1.1.2, ⟨hk.1.1.1.1, hk.1.2⟩⟩⟩)⟩, ⟨by (with_reducible repeat (first | apply Kd.R_alloc | apply Kd.R_drewN | apply Kd.R_drew)); exact Kd.R_mono (Kd.R_far (p := ⟨gb441, 5, none⟩) (Kd.R_far (p := ⟨gb441, 4, none⟩) (Kd.R_far (p := ⟨gb441, 3, none⟩) (Kd.R_far (p := ⟨gb441, 2, none⟩) (Kd.R_far (p := ⟨gb441, 1, none⟩) (Kd.R_far (p := ⟨gb441, 0, none⟩) (Kd.R_types HO424.out BK441.out (by decide)) (fun _ hk => hk.2) (.int .i64 t432)) (fun _ hk => hk.2) (.int .i64 t433)) (fun _ hk => hk.2) (.int .i64 t434)) (fun _ hk => hk.2) (.int .i64 t435)) (fun _ hk => hk.2) (.int .i64 t436)) (fun _ hk => hk.2) (.slice Ao30 t437.length co30)) (fun _ hk => ⟨hk.1.1.1.1, ⟨hk.1.1.2, ⟨hk.1.1.1.2, hk.1.2⟩⟩⟩)⟩, ⟨by (with_reducible repeat (first | apply Kd.R_alloc | apply Kd.R_drewN | apply Kd.R_drew)); exact Kd.R_mono (Kd.R_far (p := ⟨gb441, 5, none⟩) (Kd.R_far (p := ⟨gb441, 4, none⟩) (Kd.R_far (p := ⟨gb441, 3, none⟩) (Kd.R_far (p := ⟨gb441, 2, none⟩) (Kd.R_far (p := ⟨gb441, 1, none⟩) (Kd.R_far (p := ⟨gb441, 0, none⟩) (Kd.R_types HO431.out BK441.out (by decide)) (fun _ hk => hk.2) (.int .i64 t432)) (fun _ hk => hk.2) (.int .i64 t433)) (fun _ hk => hk.2) (.int .i64 t434)) (fun _ hk => hk.2) (.int .i64 t435)) (fun _ hk => hk.2) (.int .i64 t436)) (fun _ hk => hk.2) (.slice Ao30 t437.length co30)) (fun _ hk => ⟨hk.1.1.1, ⟨hk.1.1.2.2, ⟨hk.1.1.2.1, hk.1.2⟩⟩⟩)⟩, ⟨by (with_reducible repeat (first | apply Kd.R_alloc | apply Kd.R_drewN | apply Kd.R_drew)); exact Kd.R_mono (Kd.R_far (p := ⟨gb441, 5, none⟩) (Kd.R_far (p := ⟨gb441, 4, none⟩) (Kd.R_far (p := ⟨gb441, 3, none⟩) (Kd.R_far (p := ⟨gb441, 2, none⟩) (Kd.R_far (p := ⟨gb441, 1, none⟩) (Kd.R_far (p := ⟨gb441, 0, none⟩) (Kd.R_types HO420.out BK441.out (by decide)) (fun _ hk => hk.2) (.int .i64 t432)) (fun _ hk => hk.2) (.int .i64 t433)) (fun _ hk => hk.2) (.int .i64 t434)) (fun _ hk => hk.2) (.int .i64 t435)) (fun _ hk => hk.2) (.int .i64 t436)) (fun _ hk => hk.2) (.slice Ao30 t437.length co30)) (fun _ hk => ⟨hk.1.1.1.1, ⟨hk.1.1.1.2, ⟨hk.1.1.2, hk.1.2⟩⟩⟩)⟩, ⟨by (with_reducible repeat (first | apply Kd.R_alloc | apply Kd.R_drewN | apply Kd.R_drew)); exact Kd.R_mono (Kd.R_far (p := ⟨gb441, 5, none⟩) (Kd.R_far (p := ⟨gb441, 4, none⟩) (Kd.R_far (p := ⟨gb441, 3, none⟩) (Kd.R_far (p := ⟨gb441, 2, none⟩) (Kd.R_far (p := ⟨gb441, 1, none⟩) (Kd.R_far (p := ⟨gb441, 0, none⟩) (Kd.R_types HO439.out BK441.out (by decide)) (fun _ hk => hk.2) (.int .i64 t432)) (fun _ hk => hk.2) (.int .i64 t433)) (fun _ hk => hk.2) (.int .i64 t434)) (fun _ hk => hk.2) (.int .i64 t435)) (fun _ hk => hk.2) (.int .i64 t436)) (fun _ hk => hk.2) (.slice Ao30 t437.length co30)) (fun _ hk => ⟨hk.1.1.1.1.2, ⟨hk.1.1.2, ⟨hk.1.2, hk.1.1.1.2⟩⟩⟩)⟩, ⟨by (with_reducible repeat (first | refine blk_drewN ?_ _ | refine blk_drew ?_ | refine blk_alloc ?_ _)); refine blk_far ?_ NB421_441.out _; (with_reducible repeat (first | refine blk_drewN ?_ _ | refine blk_drew ?_ | refine blk_alloc ?_ _)); refine blk_far ?_ NB421_441.out _; (with_reducible repeat (first | refine blk_drewN ?_ _ | refine blk_drew ?_ | refine blk_alloc ?_ _)); refine blk_far ?_ NB421_441.out _; (with_reducible repeat (first | refine blk_drewN ?_ _ | refine blk_drew ?_ | refine blk_alloc ?_ _)); refine blk_far ?_ NB421_441.out _; (with_reducible repeat (first | refine blk_drewN ?_ _ | refine blk_drew ?_ | refine blk_alloc ?_ _)); refine blk_far ?_ NB421_441.out _; (with_reducible repeat (first | refine blk_drewN ?_ _ | refine blk_drew ?_ | refine blk_alloc ?_ _)); refine blk_far ?_ NB421_441.out _; (with_reducible repeat (first | refine blk_drewN ?_ _ | refine blk_drew ?_ | refine blk_alloc ?_ _)); exact BK421.out⟩, ⟨by (with_reducible repeat (first | refine blk_drewN ?_ _ | refine blk_drew ?_ | refine blk_alloc ?_ _)); refine blk_put (cs := #[.int .i64 t432, .int .i64 t433, .int .i64 t434, .int .i64 t435, .int .i64 t436, .slice none 0 0]) ?_ 5 _ rfl; (with_reducible repeat (first | refine blk_drewN ?_ _ | refine blk_drew ?_ | refine blk_alloc ?_ _)); refine blk_put (cs := #[.int .i64 t432, .int .i64 t433, .int .i64 t434, .int .i64 t435, .int .i64 0, .slice none 0 0]) ?_ 4 _ rfl; (with_reducible repeat (first | refine blk_drewN ?_ _ | refine blk_drew ?_ | refine blk_alloc ?_ _)); refine blk_put (cs := #[.int .i64 t432, .int .i64 t433, .int .i64 t434, .int .i64 0, .int .i64 0, .slice none 0 0]) ?_ 3 _ rfl; (with_reducible repeat (first | refine blk_drewN ?_ _ | refine blk_drew ?_ | refine blk_alloc ?_ _)); refine blk_put (cs := #[.int .i64 t432, .int .i64 t433, .int .i64 0, .int .i64 0, .int .i64 0, .slice none 0 0]) ?_ 2 _ rfl; (with_reducible repeat (first | refine blk_drewN ?_ _ | refine blk_drew ?_ | refine blk_alloc ?_ _)); refine blk_put (cs := #[.int .i64 t432, .int .i64 0, .int .i64 0, .int .i64 0, .int .i64 0, .slice none 0 0]) ?_ 1 _ rfl; (with_reducible repeat (first | refine blk_drewN ?_ _ | refine blk_drew ?_ | refine blk_alloc ?_ _)); refine blk_put (cs := #[.int .i64 0, .int .i64 0, .int .i64 0, .int .i64 0, .int .i64 0, .slice none 0 0]) ?_ 0 _ rfl; (with_reducible repeat (first | refine blk_drewN ?_ _ | refine blk_drew ?_ | refine blk_alloc ?_ _)); exact BK441.out⟩, ⟨by repeat (first | (with_reducible first | exact HB.out | apply below_alloc | apply pw_below_drewN | apply below_drew1 | refine below_set ?_ GE421.out | refine below_set ?_ GE441.out) | exact HB.out)⟩⟩
          · rw [if_neg c32] at H
            have c32b0 : (t440 == 0) = false := beq_eq_false_iff_ne.mpr c32
            have c32b1 : (t440 != 0) = true := bne_iff_ne.mpr c32
            have H' := Aside0.mk H
            clear H
            go_wp2
            go_meet
            case rel => exact ⟨_, (true), (by first | rfl | (simp; done) | (simp [*]; done) | (simp; omega)), H', ⟨by first | omega | exact Nat.le_refl _⟩, ⟨by (with_reducible repeat (first | apply Kd.R_alloc | apply Kd.R_drewN | apply Kd.R_drew)); exact Kd.R_mono (Kd.R_far (p := ⟨gb441, 5, none⟩) (Kd.R_far (p := ⟨gb441, 4, none⟩) (Kd.R_far (p := ⟨gb441, 3, none⟩) (Kd.R_far (p := ⟨gb441, 2, none⟩) (Kd.R_far (p := ⟨gb441, 1, none⟩) (Kd.R_far (p := ⟨gb441, 0, none⟩) (Kd.R_types HO414.out BK441.out (by decide)) (fun _ hk => hk.2) (.int .i64 t432)) (fun _ hk => hk.2) (.int .i64 t433)) (fun _ hk => hk.2) (.int .i64 t434)) (fun _ hk => hk.2) (.int .i64 t435)) (fun _ hk => hk.2) (.int .i64 t436)) (fun _ hk => hk.2) (.slice Ao30 t437.length co30)) (fun _ hk => ⟨hk.1.1.1.2, ⟨hk.1.1.2, ⟨hk.1.1.1.1, hk.1.2⟩⟩⟩)⟩, ⟨by (with_reducible repeat (first | apply Kd.R_alloc | apply Kd.R_drewN | apply Kd.R_drew)); exact Kd.R_mono (Kd.R_far (p := ⟨gb441, 5, none⟩) (Kd.R_far (p := ⟨gb441, 4, none⟩) (Kd.R_far (p := ⟨gb441, 3, none⟩) (Kd.R_far (p := ⟨gb441, 2, none⟩) (Kd.R_far (p := ⟨gb441, 1, none⟩) (Kd.R_far (p := ⟨gb441, 0, none⟩) (Kd.R_types HO424.out BK441.out (by decide)) (fun _ hk => hk.2) (.int .i64 t432)) (fun _ hk => hk.2) (.int .i64 t433)) (fun _ hk => hk.2) (.int .i64 t434)) (fun _ hk => hk.2) (.int .i64 t435)) (fun _ hk => hk.2) (.int .i64 t436)) (fun _ hk => hk.2) (.slice Ao30 t437.length co30)) (fun _ hk => ⟨hk.1.1.1.1, ⟨hk.1.1.2, ⟨hk.1.1.1.2, hk.1.2⟩⟩⟩)⟩, ⟨by (with_reducible repeat (first | apply Kd.R_alloc | apply Kd.R_drewN | apply Kd.R_drew)); exact Kd.R_mono (Kd.R_far (p := ⟨gb441, 5, none⟩) (Kd.R_far (p := ⟨gb441, 4, none⟩) (Kd.R_far (p := ⟨gb441, 3, none⟩) (Kd.R_far (p := ⟨gb441, 2, none⟩) (Kd.R_far (p := ⟨gb441, 1, none⟩) (Kd.R_far (p := ⟨gb441, 0, none⟩) (Kd.R_types HO431.out BK441.out (by decide)) (fun _ hk => hk.2) (.int .i64 t432)) (fun _ hk => hk.2) (.int .i64 t433)) (fun _ hk => hk.2) (.int .i64 t434)) (fun _ hk => hk.2) (.int .i64 t435)) (fun _ hk => hk.2) (.int .i64 t436)) (fun _ hk => hk.2) (.slice Ao30 t437.length co30)) (fun _ hk => ⟨hk.1.1.1, ⟨hk.1.1.2.2, ⟨hk.1.1.2.1, hk.1.2⟩⟩⟩)⟩, ⟨by (with_reducible repeat (first | apply Kd.R_alloc | apply Kd.R_drewN | apply Kd.R_drew)); exact Kd.R_mono (Kd.R_far (p := ⟨gb441, 5, none⟩) (Kd.R_far (p := ⟨gb441, 4, none⟩) (Kd.R_far (p := ⟨gb441, 3, none⟩) (Kd.R_far (p := ⟨gb441, 2, none⟩) (Kd.R_far (p := ⟨gb441, 1, none⟩) (Kd.R_far (p := ⟨gb441, 0, none⟩) (Kd.R_types HO420.out BK441.out (by decide)) (fun _ hk => hk.2) (.int .i64 t432)) (fun _ hk => hk.2) (.int .i64 t433)) (fun _ hk => hk.2) (.int .i64 t434)) (fun _ hk => hk.2) (.int .i64 t435)) (fun _ hk => hk.2) (.int .i64 t436)) (fun _ hk => hk.2) (.slice Ao30 t437.length co30)) (fun _ hk => ⟨hk.1.1.1.1, ⟨hk.1.1.1.2, ⟨hk.1.1.2, hk.1.2⟩⟩⟩)⟩, ⟨by (with_reducible repeat (first | apply Kd.R_alloc | apply Kd.R_drewN | apply Kd.R_drew)); exact Kd.R_mono (Kd.R_far (p := ⟨gb441, 5, none⟩) (Kd.R_far (p := ⟨gb441, 4, none⟩) (Kd.R_far (p := ⟨gb441, 3, none⟩) (Kd.R_far (p := ⟨gb441, 2, none⟩) (Kd.R_far (p := ⟨gb441, 1, none⟩) (Kd.R_far (p := ⟨gb441, 0, none⟩) (Kd.R_types HO439.out BK441.out (by decide)) (fun _ hk => hk.2) (.int .i64 t432)) (fun _ hk => hk.2) (.int .i64 t433)) (fun _ hk => hk.2) (.int .i64 t434)) (fun _ hk => hk.2) (.int .i64 t435)) (fun _ hk => hk.2) (.int .i64 t436)) (fun _ hk => hk.2) (.slice Ao30 t437.length co30)) (fun _ hk => ⟨hk.1.1.1.1.2, ⟨hk.1.1.2, ⟨hk.1.2, hk.1.1.1.2⟩⟩⟩)⟩, ⟨by (with_reducible repeat (first | refine blk_drewN ?_ _ | refine blk_drew ?_ | refine blk_alloc ?_ _)); refine blk_far ?_ NB421_441.out _; (with_reducible repeat (first | refine blk_drewN ?_ _ | refine blk_drew ?_ | refine blk_alloc ?_ _)); refine blk_far ?_ NB421_441.out _; (with_reducible repeat (first | refine blk_drewN ?_ _ | refine blk_drew ?_ | refine blk_alloc ?_ _)); refine blk_far ?_ NB421_441.out _; (with_reducible repeat (first | refine blk_drewN ?_ _ | refine blk_drew ?_ | refine blk_alloc ?_ _)); refine blk_far ?_ NB421_441.out _; (with_reducible repeat (first | refine blk_drewN ?_ _ | refine blk_drew ?_ | refine blk_alloc ?_ _)); refine blk_far ?_ NB421_441.out _; (with_reducible repeat (first | refine blk_drewN ?_ _ | refine blk_drew ?_ | refine blk_alloc ?_ _)); refine blk_far ?_ NB421_441.out _; (with_reducible repeat (first | refine blk_drewN ?_ _ | refine blk_drew ?_ | refine blk_alloc ?_ _)); exact BK421.out⟩, ⟨by (with_reducible repeat (first | refine blk_drewN ?_ _ | refine blk_drew ?_ | refine blk_alloc ?_ _)); refine blk_put (cs := #[.int .i64 t432, .int .i64 t433, .int .i64 t434, .int .i64 t435, .int .i64 t436, .slice none 0 0]) ?_ 5 _ rfl; (with_reducible repeat (first | refine blk_drewN ?_ _ | refine blk_drew ?_ | refine blk_alloc ?_ _)); refine blk_put (cs := #[.int .i64 t432, .int .i64 t433, .int .i64 t434, .int .i64 t435, .int .i64 0, .slice none 0 0]) ?_ 4 _ rfl; (with_reducible repeat (first | refine blk_drewN ?_ _ | refine blk_drew ?_ | refine blk_alloc ?_ _)); refine blk_put (cs := #[.int .i64 t432, .int .i64 t433, .int .i64 t434, .int .i64 0, .int .i64 0, .slice none 0 0]) ?_ 3 _ rfl; (with_reducible repeat (first | refine blk_drewN ?_ _ | refine blk_drew ?_ | refine blk_alloc ?_ _)); refine blk_put (cs := #[.int .i64 t432, .int .i64 t433, .int .i64 0, .int .i64 0, .int .i64 0, .slice none 0 0]) ?_ 2 _ rfl; (with_reducible repeat (first | refine blk_drewN ?_ _ | refine blk_drew ?_ | refine blk_alloc ?_ _)); refine blk_put (cs := #[.int .i64 t432, .int .i64 0, .int .i64 0, .int .i64 0, .int .i64 0, .slice none 0 0]) ?_ 1 _ rfl; (with_reducible repeat (first | refine blk_drewN ?_ _ | refine blk_drew ?_ | refine blk_alloc ?_ _)); refine blk_put (cs := #[.int .i64 0, .int .i64 0, .int .i64 0, .int .i64 0, .int .i64 0, .slice none 0 0]) ?_ 0 _ rfl; (with_reducible repeat (first | refine blk_drewN ?_ _ | refine blk_drew ?_ | refine blk_alloc ?_ _)); exact BK441.out⟩, ⟨by repeat (first | (with_reducible first | exact HB.out | apply below_alloc | apply pw_below_drewN | apply below_drew1 | refine below_set ?_ GE421.out | refine below_set ?_ GE441.out) | exact HB.out)⟩⟩
        · rw [if_neg c31] at H
          have c31b0 : (t425 == 0) = false := beq_eq_false_iff_ne.mpr c31
          have c31b1 : (t425 != 0) = true := bne_iff_ne.mpr c31
          (first | rw [c31b0] | (simp only [i64_w, i32_w]; rw [c31b0]) | skip)
          have H' := Aside0.mk H
          clear H
          go_wp2
          go_meet
          case rel => exact ⟨_, (true), (by first | rfl | (simp; done) | (simp [*]; done) | (simp; omega)), H', ⟨by first | omega | exact Nat.le_refl _⟩, ⟨by (with_reducible repeat (first | apply Kd.R_alloc | apply Kd.R_drewN | apply Kd.R_drew)); exact Kd.R_mono (Kd.R_far (p := ⟨gb441, 5, none⟩) (Kd.R_far (p := ⟨gb441, 4, none⟩) (Kd.R_far (p := ⟨gb441, 3, none⟩) (Kd.R_far (p := ⟨gb441, 2, none⟩) (Kd.R_far (p := ⟨gb441, 1, none⟩) (Kd.R_far (p := ⟨gb441, 0, none⟩) (Kd.R_types HO414.out BK441.out (by decide)) (fun _ hk => hk.2) (.int .i64 t432)) (fun _ hk => hk.2) (.int .i64 t433)) (fun _ hk => hk.2) (.int .i64 t434)) (fun _ hk => hk.2) (.int .i64 t435)) (fun _ hk => hk.2) (.int .i64 t436)) (fun _ hk => hk.2) (.slice Ao30 t437.length co30)) (fun _ hk => ⟨hk.1.1.1.2, ⟨hk.1.1.2, ⟨hk.1.1.1.1, hk.1.2⟩⟩⟩)⟩, ⟨by (with_reducible repeat (first | apply Kd.R_alloc | apply Kd.R_drewN | apply Kd.R_drew)); exact Kd.R_mono (Kd.R_far (p := ⟨gb441, 5, none⟩) (Kd.R_far (p := ⟨gb441, 4, none⟩) (Kd.R_far (p := ⟨gb441, 3, none⟩) (Kd.R_far (p := ⟨gb441, 2, none⟩) (Kd.R_far (p := ⟨gb441, 1, none⟩) (Kd.R_far (p := ⟨gb441, 0, none⟩) (Kd.R_types HO424.out BK441.out (by decide)) (fun _ hk => hk.2) (.int .i64 t432)) (fun _ hk => hk.2) (.int .i64 t433)) (fun _ hk => hk.2) (.int .i64 t434)) (fun _ hk => hk.2) (.int .i64 t435)) (fun _ hk => hk.2) (.int .i64 t436)) (fun _ hk => hk.2) (.slice Ao30 t437.length co30)) (fun _ hk => ⟨hk.1.1.1.1, ⟨hk.1.1.2, ⟨hk.1.1.1.2, hk.1.2⟩⟩⟩)⟩, ⟨by (with_reducible repeat (first | apply Kd.R_alloc | apply Kd.R_drewN | apply Kd.R_drew)); exact Kd.R_mono (Kd.R_far (p := ⟨gb441, 5, none⟩) (Kd.R_far (p := ⟨gb441, 4, none⟩) (Kd.R_far (p := ⟨gb441, 3, none⟩) (Kd.R_far (p := ⟨gb441, 2, none⟩) (Kd.R_far (p := ⟨gb441, 1, none⟩) (Kd.R_far (p := ⟨gb441, 0, none⟩) (Kd.R_types HO431.out BK441.out (by decide)) (fun _ hk => hk.2) (.int .i64 t432)) (fun _ hk => hk.2) (.int .i64 t433)) (fun _ hk => hk.2) (.int .i64 t434)) (fun _ hk => hk.2) (.int .i64 t435)) (fun _ hk => hk.2) (.int .i64 t436)) (fun _ hk => hk.2) (.slice Ao30 t437.length co30)) (fun _ hk => ⟨hk.1.1.1, ⟨hk.1.1.2.2, ⟨hk.1.1.2.1, hk.1.2⟩⟩⟩)⟩, ⟨by (with_reducible repeat (first | apply Kd.R_alloc | apply Kd.R_drewN | apply Kd.R_drew)); exact Kd.R_mono (Kd.R_far (p := ⟨gb441, 5, none⟩) (Kd.R_far (p := ⟨gb441, 4, none⟩) (Kd.R_far (p := ⟨gb441, 3, none⟩) (Kd.R_far (p := ⟨gb441, 2, none⟩) (Kd.R_far (p := ⟨gb441, 1, none⟩) (Kd.R_far (p := ⟨gb441, 0, none⟩) (Kd.R_types HO420.out BK441.out (by decide)) (fun _ hk => hk.2) (.int .i64 t432)) (fun _ hk => hk.2) (.int .i64 t433)) (fun _ hk => hk.2) (.int .i64 t434)) (fun _ hk => hk.2) (.int .i64 t435)) (fun _ hk => hk.2) (.int .i64 t436)) (fun _ hk => hk.2) (.slice Ao30 t437.length co30)) (fun _ hk => ⟨hk.1.1.1.1, ⟨hk.1.1.1.2, ⟨hk.1.1.2, hk.1.2⟩⟩⟩)⟩, ⟨by (with_reducible repeat (first | apply Kd.R_alloc | apply Kd.R_drewN | apply Kd.R_drew)); exact Kd.R_mono (Kd.R_far (p := ⟨gb441, 5, none⟩) (Kd.R_far (p := ⟨gb441, 4, none⟩) (Kd.R_far (p := ⟨gb441, 3, none⟩) (Kd.R_far (p := ⟨gb441, 2, none⟩) (Kd.R_far (p := ⟨gb441, 1, none⟩) (Kd.R_far (p := ⟨gb441, 0, none⟩) (Kd.R_types HO439.out BK441.out (by decide)) (fun _ hk => hk.2) (.int .i64 t432)) (fun _ hk => hk.2) (.int .i64 t433)) (fun _ hk => hk.2) (.int .i64 t434)) (fun _ hk => hk.2) (.int .i64 t435)) (fun _ hk => hk.2) (.int .i64 t436)) (fun _ hk => hk.2) (.slice Ao30 t437.length co30)) (fun _ hk => ⟨hk.1.1.1.1.2, ⟨hk.1.1.2, ⟨hk.1.2, hk.1.1.1.2⟩⟩⟩)⟩, ⟨by (with_reducible repeat (first | refine blk_drewN ?_ _ | refine blk_drew ?_ | refine blk_alloc ?_ _)); refine blk_far ?_ NB421_441.out _; (with_reducible repeat (first | refine blk_drewN ?_ _ | refine blk_drew ?_ | refine blk_alloc ?_ _)); refine blk_far ?_ NB421_441.out _; (with_reducible repeat (first | refine blk_drewN ?_ _ | refine blk_drew ?_ | refine blk_alloc ?_ _)); refine blk_far ?_ NB421_441.out _; (with_reducible repeat (first | refine blk_drewN ?_ _ | refine blk_drew ?_ | refine blk_alloc ?_ _)); refine blk_far ?_ NB421_441.out _; (with_reducible repeat (first | refine blk_drewN ?_ _ | refine blk_drew ?_ | refine blk_alloc ?_ _)); refine blk_far ?_ NB421_441.out _; (with_reducible repeat (first | refine blk_drewN ?_ _ | refine blk_drew ?_ | refine blk_alloc ?_ _)); refine blk_far ?_ NB421_441.out _; (with_reducible repeat (first | refine blk_drewN ?_ _ | refine blk_drew ?_ | refine blk_alloc ?_ _)); exact BK421.out⟩, ⟨by (with_reducible repeat (first | refine blk_drewN ?_ _ | refine blk_drew ?_ | refine blk_alloc ?_ _)); refine blk_put (cs := #[.int .i64 t432, .int .i64 t433, .int .i64 t434, .int .i64 t435, .int .i64 t436, .slice none 0 0]) ?_ 5 _ rfl; (with_reducible repeat (first | refine blk_drewN ?_ _ | refine blk_drew ?_ | refine blk_alloc ?_ _)); refine blk_put (cs := #[.int .i64 t432, .int .i64 t433, .int .i64 t434, .int .i64 t435, .int .i64 0, .slice none 0 0]) ?_ 4 _ rfl; (with_reducible repeat (first | refine blk_drewN ?_ _ | refine blk_drew ?_ | refine blk_alloc ?_ _)); refine blk_put (cs := #[.int .i64 t432, .int .i64 t433, .int .i64 t434, .int .i64 0, .int .i64 0, .slice none 0 0]) ?_ 3 _ rfl; (with_reducible repeat (first | refine blk_drewN ?_ _ | refine blk_drew ?_ | refine blk_alloc ?_ _)); refine blk_put (cs := #[.int .i64 t432, .int .i64 t433, .int .i64 0, .int .i64 0, .int .i64 0, .slice none 0 0]) ?_ 2 _ rfl; (with_reducible repeat (first | refine blk_drewN ?_ _ | refine blk_drew ?_ | refine blk_alloc ?_ _)); refine blk_put (cs := #[.int .i64 t432, .int .i64 0, .int .i64 0, .int .i64 0, .int .i64 0, .slice none 0 0]) ?_ 1 _ rfl; (with_reducible repeat (first | refine blk_drewN ?_ _ | refine blk_drew ?_ | refine blk_alloc ?_ _)); refine blk_put (cs := #[.int .i64 0, .int .i64 0, .int .i64 0, .int .i64 0, .int .i64 0, .slice none 0 0]) ?_ 0 _ rfl; (with_reducible repeat (first | refine blk_drewN ?_ _ | refine blk_drew ?_ | refine blk_alloc ?_ _)); exact BK441.out⟩, ⟨by repeat (first | (with_reducible first | exact HB.out | apply below_alloc | apply pw_below_drewN | apply below_drew1 | refine below_set ?_ GE421.out | refine below_set ?_ GE441.out) | exact HB.out)⟩⟩
       case rest =>
        clear HC11
        try clear c1
        try clear c2
        try clear p2
        try clear c3
        try clear c4
        try clear c4b0
        try clear c4b1
        try clear c7
        try clear c8
        try clear c9
        try clear c15
        try clear c18
        try clear c28
        try clear c31
        try clear c31b0
        try clear c31b1
        try clear c32
        try clear c32b0
        try clear c32b1
        try clear c33
        try clear c33b0
        try clear c33b1
        try clear c34
        try clear hcz20_0
        try clear hcz20_1
        try clear hcz20_2
        try clear hcz20_3
        try clear hcz20_4
        try clear hcz20_5
        try clear hcz29_0
        try clear hcz29_1
        try clear hcz29_2
        try clear hcz29_3
        try clear hcz29_4
        try clear hcz29_5
        try clear hcz35_0
        try clear hcz35_1
        try clear hcz35_2
        try clear hcz35_3
        try clear hcz35_4
        try clear hcz35_5
        try clear hfz20_0
        try clear hfz20_1
        try clear hfz20_2
        try clear hfz20_3
        try clear hfz20_4
        try clear hfz20_5
        try clear hfz29_0
        try clear hfz29_1
        try clear hfz29_2
        try clear hfz29_3
        try clear hfz29_4
        try clear hfz29_5
        try clear hfz35_0
        try clear hfz35_1
        try clear hfz35_2
        try clear hfz35_3
        try clear hfz35_4
        try clear hfz35_5
        obtain ⟨kq, x56_10, rfl, HA, HJ10, HO_6, HO_8, HO_10, HO_422005, HO_442005, BK421, BK441, HB⟩ := hcut
        cases kq with
        | zero => exact absurd HA.out (by simp [keepsakelaw21_CartOwn.j0])
        | succ kj10 =>
         have H := HA.out
         clear HA
         simp only [keepsakelaw21_CartOwn.j0] at H
         by_cases c36 : x56_10 = true
         · subst c36
           have H1 : (none) = some r := by rw [if_pos rfl] at H; exact H
           clear H
           have H := H1
           clear H1
           exact absurd H (by simp)
         · replace c36 := Bool.eq_false_iff.mpr c36
           subst c36
           have H1 : (keepsakelaw21_CartOwn.l0 kj10 a1 t411 t412 t422 y429 0 8 1 0 0 0 y418 t432 t433 t434 t435 t436 t437) = some r := by rw [if_neg (show ¬ (false = true) by decide)] at H; exact H
           clear H
           have H := H1
           clear H1
           have H' := Aside0.mk H
           clear H
           go_wp2
           go_loopg [13] kj10 (fun kq v13 w' => ∃ (x6_2 : List Int) (x8_2 : List Int) (x10_2 : List Int) (x13_2 : Int) (x422005_2 : List Int) (x442005_2 : List Int) (u422005 : Value) (u442005 : Value), v13 = .int .i64 x13_2 ∧ Aside0 (keepsakelaw21_CartOwn.l0 kq a1 t411 x6_2 x8_2 x10_2 x13_2 8 1 0 0 0 x422005_2 t432 t433 t434 t435 t436 x442005_2 = some r) ∧ Aside0 (kq ≤ kj10) ∧ Aside0 (Kd.R (Kd.int .u8) 5 w' w.heap.size (fun k_ => some k_ ≠ ((.slice Ao25 t422.length co25) : Value).ownBlock ∧ some k_ ≠ (v430 : Value).ownBlock ∧ some k_ ≠ (u422005 : Value).ownBlock ∧ some k_ ≠ (u442005 : Value).ownBlock) (.slice Ao17 t412.length co17) x6_2) ∧ Aside0 (Kd.R (Kd.int .u8) 5 w' w.heap.size (fun k_ => some k_ ≠ ((.slice Ao17 t412.length co17) : Value).ownBlock ∧ some k_ ≠ (v430 : Value).ownBlock ∧ some k_ ≠ (u422005 : Value).ownBlock ∧ some k_ ≠ (u442005 : Value).ownBlock) (.slice Ao25 t422.length co25) x8_2) ∧ Aside0 (Kd.R (Kd.int .u8) 5 w' w.heap.size (fun k_ => some k_ ≠ ((.slice Ao17 t412.length co17) : Value).ownBlock ∧ some k_ ≠ ((.slice Ao25 t422.length co25) : Value).ownBlock ∧ some k_ ≠ (u422005 : Value).ownBlock ∧ some k_ ≠ (u442005 : Value).ownBlock) v430 x10_2) ∧ Aside0 (Kd.R (Kd.int .u8) 5 w' w.heap.size (fun k_ => some k_ ≠ ((.slice Ao17 t412.length co17) : Value).ownBlock ∧ some k_ ≠ ((.slice Ao25 t422.length co25) : Value).ownBlock ∧ some k_ ≠ (v430 : Value).ownBlock ∧ some k_ ≠ (u442005 : Value).ownBlock) u422005 x422005_2) ∧ Aside0 (Kd.R (Kd.int .u8) 5 w' w.heap.size (fun k_ => some k_ ≠ ((.slice Ao17 t412.length co17) : Value).ownBlock ∧ some k_ ≠ ((.slice Ao25 t422.length co25) : Value).ownBlock ∧ some k_ ≠ (v430 : Value).ownBlock ∧ some k_ ≠ (u422005 : Value).ownBlock) u442005 x442005_2) ∧ Aside0 (w'.heap[gb421]? = some (.cells #[.int .i64 8, .int .i64 1, .int .i64 0, .int .i64 0, .int .i64 0, u422005] 27 (0, 0))) ∧ Aside0 (w'.heap[gb441]? = some (.cells #[.int .i64 t432, .int .i64 t433, .int .i64 t434, .int .i64 t435, .int .i64 t436, u442005] 27 (0, 0))) ∧ Aside0 (Below w.heap.size w w'))
           case atStart => exact ⟨(t412), (t422), (y429), (0), (y418), (t437), (.slice Ao18 y418.length co18), (.slice Ao30 t437.length co30), (by first | rfl | (simp; done) | (simp [*]; done) | (simp; omega)), H', ⟨Nat.le_refl _⟩, ⟨by (with_reducible repeat (first | apply Kd.R_alloc | apply Kd.R_drewN | apply Kd.R_drew)); exact HO_6.out⟩, ⟨by (with_reducible repeat (first | apply Kd.R_alloc | apply Kd.R_drewN | apply Kd.R_drew)); exact HO_8.out⟩, ⟨by (with_reducible repeat (first | apply Kd.R_alloc | apply Kd.R_drewN | apply Kd.R_drew)); exact HO_10.out⟩, ⟨by (with_reducible repeat (first | apply Kd.R_alloc | apply Kd.R_drewN | apply Kd.R_drew)); exact HO_422005.out⟩, ⟨by (with_reducible repeat (first | apply Kd.R_alloc | apply Kd.R_drewN | apply Kd.R_drew)); exact HO_442005.out⟩, ⟨by (with_reducible repeat (first | refine blk_drewN ?_ _ | refine blk_drew ?_ | refine blk_alloc ?_ _)); exact BK421.out⟩, ⟨by (with_reducible repeat (first | refine blk_drewN ?_ _ | refine blk_drew ?_ | refine blk_alloc ?_ _)); exact BK441.out⟩, ⟨by repeat (first | (with_reducible first | exact HB.out | apply below_alloc | apply pw_below_drewN | apply below_drew1 | refine below_set ?_ GE421.out | refine below_set ?_ GE441.out) | exact HB.out)⟩⟩
           case round =>
            clear H'
            try clear c1
            try clear c2
            try clear p2
            try clear c3
            try clear c4
            try clear c4b0
            try clear c4b1
            try clear c7
            try clear c8
            try clear c9
            try clear c15
            try clear c18
            try clear c28
            try clear c31
            try clear c31b0
            try clear c31b1
            try clear c32
            try clear c32b0
            try clear c32b1
            try clear c33
            try clear c33b0
            try clear c33b1
            try clear c34
            try clear c36
            try clear hcz20_0
            try clear hcz20_1
            try clear hcz20_2
            try clear hcz20_3
            try clear hcz20_4
            try clear hcz20_5
            try clear hcz29_0
            try clear hcz29_1
            try clear hcz29_2
            try clear hcz29_3
            try clear hcz29_4
            try clear hcz29_5
            try clear hcz35_0
            try clear hcz35_1
            try clear hcz35_2
            try clear hcz35_3
            try clear hcz35_4
            try clear hcz35_5
            try clear hfz20_0
            try clear hfz20_1
            try clear hfz20_2
            try clear hfz20_3
            try clear hfz20_4
            try clear hfz20_5
            try clear hfz29_0
            try clear hfz29_1
            try clear hfz29_2
            try clear hfz29_3
            try clear hfz29_4
            try clear hfz29_5
            try clear hfz35_0
            try clear hfz35_1
            try clear hfz35_2
            try clear hfz35_3
            try clear hfz35_4
            try clear hfz35_5
            try clear p2
            obtain ⟨x6_2, x8_2, x10_2, x13_2, x422005_2, x442005_2, u422005, u442005, rfl, HA, HK2, HO_6, HO_8, HO_10, HO_422005, HO_442005, BK421, BK441, HB⟩ := hrel
            have hl6_2 := (Kd.R_reads' HO_6.out).1
            rw [hl6_2] at HO_6
            (try simp only [hl6_2])
            (try simp only [hl6_2] at BK421)
            (try simp only [hl6_2] at BK441)
            (try simp only [hl6_2] at HO_8)
            (try simp only [hl6_2] at HO_10)
            (try simp only [hl6_2] at HO_422005)
            (try simp only [hl6_2] at HO_442005)
            have hl8_2 := (Kd.R_reads' HO_8.out).1
            rw [hl8_2] at HO_8
            (try simp only [hl8_2])
            (try simp only [hl8_2] at BK421)
            (try simp only [hl8_2] at BK441)
            (try simp only [hl8_2] at HO_6)
            (try simp only [hl8_2] at HO_10)
            (try simp only [hl8_2] at HO_422005)
            (try simp only [hl8_2] at HO_442005)
            cases gk with
            | zero => exact absurd HA.out (by simp [keepsakelaw21_CartOwn.l0])
            | succ k2 =>
             have H := HA.out
             clear HA
             simp only [keepsakelaw21_CartOwn.l0] at H
             by_cases c37 : x13_2 < 256
             · rw [if_pos c37] at H
               have c37b0 : decide (x13_2 < 256) = true := decide_eq_true c37
               clear c37
               by_cases c38 : 0 ≤ x13_2
               · rw [if_pos c38] at H
                 have c38b0 : decide (0 ≤ x13_2) = true := decide_eq_true c38
                 clear c38
                 by_cases c39 : x13_2 < (x422005_2.length : Int)
                 · rw [if_pos c39] at H
                   have c39b0 : decide (x13_2 < (x422005_2.length : Int)) = true := decide_eq_true c39
                   clear c39
                   obtain ⟨y442, hy442⟩ : ∃ y_ : List Int, y_ = (x422005_2.set (x13_2 : Int).toNat a1) := ⟨_, rfl⟩
                   replace H : (keepsakelaw21_CartOwn.l0 k2 a1 t411 x6_2 x8_2 x10_2 (wrap64 (x13_2 + 1)) 8 1 0 0 0 y442 t432 t433 t434 t435 t436 x442005_2) = some r := by first | (rw [hy442]; with_reducible exact H) | (have H2_ := (Option.bind_some _ _).symm.trans H; rw [hy442]; with_reducible exact H2_) | (have H2_ := (Option.bind_some _ _).symm.trans H; with_reducible exact H2_) | with_reducible exact H | (rw [hy442]; exact H) | exact H
                   have Ny442 := Aside0.mk hy442
                   clear hy442
                   have H' := Aside0.mk H
                   clear H
                   have hnb41 := NB421_441.out
                   have hnc41 := NB441_421.out
                   have hcz42_0 : wr.cell? ⟨gb421, 0, none⟩ = some (.int .i64 8) := (blk_cell BK421.out 0).trans rfl
                   have hcz42_1 : wr.cell? ⟨gb421, 1, none⟩ = some (.int .i64 1) := (blk_cell BK421.out 1).trans rfl
                   have hcz42_2 : wr.cell? ⟨gb421, 2, none⟩ = some (.int .i64 0) := (blk_cell BK421.out 2).trans rfl
                   have hcz42_3 : wr.cell? ⟨gb421, 3, none⟩ = some (.int .i64 0) := (blk_cell BK421.out 3).trans rfl
                   have hcz42_4 : wr.cell? ⟨gb421, 4, none⟩ = some (.int .i64 0) := (blk_cell BK421.out 4).trans rfl
                   have hcz42_5 : wr.cell? ⟨gb421, 5, none⟩ = some (u422005) := (blk_cell BK421.out 5).trans rfl
                   have hfz42_0 := blk_frozen BK421.out 0
                   have hfz42_1 := blk_frozen BK421.out 1
                   have hfz42_2 := blk_frozen BK421.out 2
                   have hfz42_3 := blk_frozen BK421.out 3
                   have hfz42_4 := blk_frozen BK421.out 4
                   have hfz42_5 := blk_frozen BK421.out 5
                   have p40 : 0 ≤ (x13_2 : Int) := of_decide_eq_true (by first | (with_reducible assumption) | assumption)
                   have q40 : (x13_2 : Int) < ((x422005_2.length : Int) : Int) := of_decide_eq_true (by first | (with_reducible assumption) | assumption)
                   obtain ⟨go40, co40, eo40, gb40, gl40, cl40, HG40⟩ := Kd.R_form HO_422005.out (by omega)
                   (first | cases eo40 | (injection eo40 with ea_ en_ ec_; (first | subst ea_ | (injection ea_ with ea_; subst ea_)); subst ec_; clear en_))
                   have GB40 := Aside0.mk gb40
                   have GG40 := Aside0.mk HG40
                   clear gb40 gl40 HG40
                   obtain ⟨hx40_0, hf40_0⟩ := Kd.R_celln 0 HO_422005.out (x13_2 : Int) p40 q40
                   replace p40 := eq_true p40
                   replace q40 := eq_true q40
                   have HP43 := Kd.R_putg HO_422005.out (x13_2 : Int) a1
                   go_wp2_with (first | ((with_reducible refine gate_store (t := 5) (p := 65) rfl ?_); refine store_event (t := 5) (p := 65) (v := ?vo_w44) (w1 := (wr.setCell ⟨go40, (x13_2 : Int).toNat, none⟩ (.int .u8 a1))) ?hg ?ho ?hn ?hr ?_; (case ho => rfl); (case hg => rfl); (case hn => rfl); (case hr => first | (go_simp; done) | (go_simp; rfl)); intro w44 hw; have hg : wr.grownBy w44 (some go40) := (by rw [hw]; exact HP43.2); have hp_ : Kd.R (Kd.int .u8) 5 w44 w.heap.size (fun k_ => some k_ ≠ (.slice Ao17 x6_2.length co17 : Value).ownBlock ∧ some k_ ≠ (.slice Ao25 x8_2.length co25 : Value).ownBlock ∧ some k_ ≠ (v430 : Value).ownBlock ∧ some k_ ≠ (u442005 : Value).ownBlock) (.slice (some ⟨go40, 0, none⟩) x422005_2.length co40) y442 := (by rw [hw, Ny442.out]; exact HP43.1); clear HP43; have n0_ := Aside0.mk (Kd.R_after (v := (.slice (some ⟨go40, 0, none⟩) x422005_2.length co40)) (v1 := (.slice (some ⟨go40, 0, none⟩) x422005_2.length co40)) (ok := (fun k_ => some k_ ≠ (.slice Ao25 x8_2.length co25 : Value).ownBlock ∧ some k_ ≠ (v430 : Value).ownBlock ∧ some k_ ≠ (u442005 : Value).ownBlock)) (by (with_reducible repeat (first | apply Kd.R_alloc | apply Kd.R_drewN | apply Kd.R_drew)); exact Kd.R_mono HO_6.out (fun _ hk => ⟨⟨hk.1, ⟨hk.2.1, hk.2.2.2⟩⟩, hk.2.2.1⟩)) hg (.inl rfl)); have n1_ := Aside0.mk (Kd.R_after (v := (.slice (some ⟨go40, 0, none⟩) x422005_2.length co40)) (v1 := (.slice (some ⟨go40, 0, none⟩) x422005_2.length co40)) (ok := (fun k_ => some k_ ≠ (.slice Ao17 x6_2.length co17 : Value).ownBlock ∧ some k_ ≠ (v430 : Value).ownBlock ∧ some k_ ≠ (u442005 : Value).ownBlock)) (by (with_reducible repeat (first | apply Kd.R_alloc | apply Kd.R_drewN | apply Kd.R_drew)); exact Kd.R_mono HO_8.out (fun _ hk => ⟨⟨hk.1, ⟨hk.2.1, hk.2.2.2⟩⟩, hk.2.2.1⟩)) hg (.inl rfl)); have n2_ := Aside0.mk (Kd.R_after (v := (.slice (some ⟨go40, 0, none⟩) x422005_2.length co40)) (v1 := (.slice (some ⟨go40, 0, none⟩) x422005_2.length co40)) (ok := (fun k_ => some k_ ≠ (.slice Ao17 x6_2.length co17 : Value).ownBlock ∧ some k_ ≠ (.slice Ao25 x8_2.length co25 : Value).ownBlock ∧ some k_ ≠ (u442005 : Value).ownBlock)) (by (with_reducible repeat (first | apply Kd.R_alloc | apply Kd.R_drewN | apply Kd.R_drew)); exact Kd.R_mono HO_10.out (fun _ hk => ⟨⟨hk.1, ⟨hk.2.1, hk.2.2.2⟩⟩, hk.2.2.1⟩)) hg (.inl rfl)); have n3_ := Aside0.mk (hp_); have n4_ := Aside0.mk (Kd.R_after (v := (.slice (some ⟨go40, 0, none⟩) x422005_2.length co40)) (v1 := (.slice (some ⟨go40, 0, none⟩) x422005_2.length co40)) (ok := (fun k_ => some k_ ≠ (.slice Ao17 x6_2.length co17 : Value).ownBlock ∧ some k_ ≠ (.slice Ao25 x8_2.length co25 : Value).ownBlock ∧ some k_ ≠ (v430 : Value).ownBlock)) (by (with_reducible repeat (first | apply Kd.R_alloc | apply Kd.R_drewN | apply Kd.R_drew)); exact Kd.R_mono HO_442005.out (fun _ hk => ⟨⟨hk.1, ⟨hk.2.1, hk.2.2.1⟩⟩, hk.2.2.2⟩)) hg (.inl rfl)); have n5_ := Aside0.mk (blk_grown (g := gb421) (o := .cells #[.int .i64 8, .int .i64 1, .int .i64 0, .int .i64 0, .int .i64 0, .slice (some ⟨go40, 0, none⟩) x422005_2.length co40] 27 (0, 0)) (by (with_reducible repeat (first | refine blk_drewN ?_ _ | refine blk_drew ?_ | refine blk_alloc ?_ _)); exact BK421.out) hg (Kd.R_ne HO_422005.out BK421.out (by decide))); have n6_ := Aside0.mk (blk_grown (g := gb441) (o := .cells #[.int .i64 t432, .int .i64 t433, .int .i64 t434, .int .i64 t435, .int .i64 t436, u442005] 27 (0, 0)) (by (with_reducible repeat (first | refine blk_drewN ?_ _ | refine blk_drew ?_ | refine blk_alloc ?_ _)); exact BK441.out) hg (Kd.R_ne HO_422005.out BK441.out (by decide))); have n7_ := Aside0.mk ((by rw [hw]; exact below_set (HB.out) GB40.out : Below w.heap.size w w44)); clear HO_6; clear HO_8; clear HO_10; clear HO_422005; clear HO_442005; clear BK421; clear BK441; clear HB; have HO_6 := n0_; have HO_8 := n1_; have HO_10 := n2_; have HO_422005 := n3_; have HO_442005 := n4_; have BK421 := n5_; have BK441 := n6_; have HB := n7_; clear n0_ n1_ n2_ n3_ n4_ n5_ n6_ n7_; clear hg hw hp_))
                   (try simp only [← hl6_2, ← hl8_2])
                   go_roundg k2
                   case measure => have := HJ10.out; have := HK2.out; omega
                   case rel => exact ⟨(x6_2), (x8_2), (x10_2), (wrap64 (x13_2 + 1)), (y442), (x442005_2), (.slice (some ⟨go40, 0, none⟩) x422005_2.length co40), (u442005), (by first | rfl | (simp; done) | (simp [*]; done) | (simp; omega)), H', ⟨by have := HJ10.out; have := HK2.out; omega⟩, ⟨by (try simp only [hl6_2]); (try simp only [hl8_2]); (with_reducible repeat (first | apply Kd.R_alloc | apply Kd.R_drewN | apply Kd.R_drew)); exact Kd.R_mono HO_6.out (fun _ hk => ⟨hk.1.1, ⟨hk.1.2.1, ⟨hk.2, hk.1.2.2⟩⟩⟩)⟩, ⟨by (try simp only [hl6_2]); (try simp only [hl8_2]); (with_reducible repeat (first | apply Kd.R_alloc | apply Kd.R_drewN | apply Kd.R_drew)); exact Kd.R_mono HO_8.out (fun _ hk => ⟨hk.1.1, ⟨hk.1.2.1, ⟨hk.2, hk.1.2.2⟩⟩⟩)⟩, ⟨by (try simp only [hl6_2]); (try simp only [hl8_2]); (with_reducible repeat (first | apply Kd.R_alloc | apply Kd.R_drewN | apply Kd.R_drew)); exact Kd.R_mono HO_10.out (fun _ hk => ⟨hk.1.1, ⟨hk.1.2.1, ⟨hk.2, hk.1.2.2⟩⟩⟩)⟩, ⟨by (try simp only [hl6_2]); (try simp only [hl8_2]); (with_reducible repeat (first | apply Kd.R_alloc | apply Kd.R_drewN | apply Kd.R_drew)); exact HO_422005.out⟩, ⟨by (try simp only [hl6_2]); (try simp only [hl8_2]); (with_reducible repeat (first | apply Kd.R_alloc | apply Kd.R_drewN | apply Kd.R_drew)); exact Kd.R_mono HO_442005.out (fun _ hk => ⟨hk.1.1, ⟨hk.1.2.1, ⟨hk.1.2.2, hk.2⟩⟩⟩)⟩, ⟨by (try simp only [hl6_2]); (try simp only [hl8_2]); (with_reducible repeat (first | refine blk_drewN ?_ _ | refine blk_drew ?_ | refine blk_alloc ?_ _)); exact BK421.out⟩, ⟨by (try simp only [hl6_2]); (try simp only [hl8_2]); (with_reducible repeat (first | refine blk_drewN ?_ _ | refine blk_drew ?_ | refine blk_alloc ?_ _)); exact BK441.out⟩, ⟨by repeat (first | (with_reducible first | exact HB.out | apply below_alloc | apply pw_below_drewN | apply below_drew1 | refine below_set ?_ GE421.out | refine below_set ?_ GE441.out) | exact HB.out)⟩⟩
                 · rw [if_neg c39] at H
                   exact absurd H (by simp)
               · rw [if_neg c38] at H
                 exact absurd H (by simp)
             · rw [if_neg c37] at H
               have c37b0 : decide (x13_2 < 256) = false := decide_eq_false c37
               clear c37
               replace H := Option.bind_eq_some_iff.mp H
               obtain ⟨t443, A450, H⟩ := H
               replace H : (keepsakelaw21_CartOwn.l1 k2 a1 t411 x6_2 x8_2 t443 0 t432 t433 t434 t435 t436 x442005_2) = some r := H
               have A45 := Aside0.mk A450
               clear A450
               have H' := Aside0.mk H
               clear H
               obtain ⟨Ao46, co46, eo46⟩ := Kd.R_slice HO_10.out
               subst eo46
               go_wp2_with (first | ((with_reducible refine gate_callee (f := 17) rfl ?_); refine goesL_ (some 68) rfl rfl Try.func17 (by kernel_rfl) rfl #[.slice Ao25 x8_2.length co25, .slice Ao46 x10_2.length co46] rfl (by (try simp only [List.map_toArray, List.map_cons, List.map_nil]); first | done | rfl | (simp only [List.length_drop, List.length_take]; rfl)) ?_; (with_reducible refine (keepsakeref01_Same.calls k2 _ _ x8_2 _ _ x10_2 t443 _ ?side1 ?side2 ?side3 ?side4 A45.out).mono ?_); (case side1 => repeat (first | exact (Kd.R_reads' HO_8.out).2.2 | (with_reducible refine Kd.C_alloc ?_ _) | (with_reducible refine Kd.C_drewN ?_ _) | (with_reducible refine Kd.C_drew ?_))); (case side2 => exact (Kd.R_reads' HO_8.out).2.1); (case side3 => repeat (first | exact (Kd.R_reads' HO_10.out).2.2 | (with_reducible refine Kd.C_alloc ?_ _) | (with_reducible refine Kd.C_drewN ?_ _) | (with_reducible refine Kd.C_drew ?_))); (case side4 => exact (Kd.R_reads' HO_10.out).2.1); rintro e w' ⟨rfl, ⟨nd, rfl⟩⟩; refine ⟨_, rfl, ?_⟩))
               go_loopg [15] k2 (fun kq v15 w' => ∃ (x8_3 : List Int) (x15_3 : Int), v15 = .int .i64 x15_3 ∧ Aside0 (keepsakelaw21_CartOwn.l1 kq a1 t411 x6_2 x8_3 t443 x15_3 t432 t433 t434 t435 t436 x442005_2 = some r) ∧ Aside0 (kq ≤ k2) ∧ Aside0 (Kd.R (Kd.int .u8) 5 w' w.heap.size (fun k_ => some k_ ≠ ((.slice Ao25 x8_2.length co25) : Value).ownBlock ∧ some k_ ≠ (u422005 : Value).ownBlock ∧ some k_ ≠ (u442005 : Value).ownBlock) (.slice Ao17 x6_2.length co17) x6_2) ∧ Aside0 (Kd.R (Kd.int .u8) 5 w' w.heap.size (fun k_ => some k_ ≠ ((.slice Ao17 x6_2.length co17) : Value).ownBlock ∧ some k_ ≠ (u422005 : Value).ownBlock ∧ some k_ ≠ (u442005 : Value).ownBlock) (.slice Ao25 x8_2.length co25) x8_3) ∧ Aside0 (Kd.R (Kd.int .u8) 5 w' w.heap.size (fun k_ => some k_ ≠ ((.slice Ao17 x6_2.length co17) : Value).ownBlock ∧ some k_ ≠ ((.slice Ao25 x8_2.length co25) : Value).ownBlock ∧ some k_ ≠ (u442005 : Value).ownBlock) u422005 x422005_2) ∧ Aside0 (Kd.R (Kd.int .u8) 5 w' w.heap.size (fun k_ => some k_ ≠ ((.slice Ao17 x6_2.length co17) : Value).ownBlock ∧ some k_ ≠ ((.slice Ao25 x8_2.length co25) : Value).ownBlock ∧ some k_ ≠ (u422005 : Value).ownBlock) u442005 x442005_2) ∧ Aside0 (w'.heap[gb421]? = some (.cells #[.int .i64 8, .int .i64 1, .int .i64 0, .int .i64 0, .int .i64 0, u422005] 27 (0, 0))) ∧ Aside0 (w'.heap[gb441]? = some (.cells #[.int .i64 t432, .int .i64 t433, .int .i64 t434, .int .i64 t435, .int .i64 t436, u442005] 27 (0, 0))) ∧ Aside0 (Below w.heap.size w w'))
               case atStart => exact ⟨(x8_2), (0), (by first | rfl | (simp; done) | (simp [*]; done) | (simp; omega)), H', ⟨Nat.le_refl _⟩, ⟨by (try simp only [hl6_2]); (try simp only [hl8_2]); (with_reducible repeat (first | apply Kd.R_alloc | apply Kd.R_drewN | apply Kd.R_drew)); exact Kd.R_mono HO_6.out (fun _ hk => ⟨hk.1, ⟨hk.2.2.1, hk.2.2.2⟩⟩)⟩, ⟨by (try simp only [hl6_2]); (try simp only [hl8_2]); (with_reducible repeat (first | apply Kd.R_alloc | apply Kd.R_drewN | apply Kd.R_drew)); exact Kd.R_mono HO_8.out (fun _ hk => ⟨hk.1, ⟨hk.2.2.1, hk.2.2.2⟩⟩)⟩, ⟨by (try simp only [hl6_2]); (try simp only [hl8_2]); (with_reducible repeat (first | apply Kd.R_alloc | apply Kd.R_drewN | apply Kd.R_drew)); exact Kd.R_mono HO_422005.out (fun _ hk => ⟨hk.1, ⟨hk.2.1, hk.2.2.2⟩⟩)⟩, ⟨by (try simp only [hl6_2]); (try simp only [hl8_2]); (with_reducible repeat (first | apply Kd.R_alloc | apply Kd.R_drewN | apply Kd.R_drew)); exact Kd.R_mono HO_442005.out (fun _ hk => ⟨hk.1, ⟨hk.2.1, hk.2.2.2⟩⟩)⟩, ⟨by (try simp only [hl6_2]); (try simp only [hl8_2]); (with_reducible repeat (first | refine blk_drewN ?_ _ | refine blk_drew ?_ | refine blk_alloc ?_ _)); exact BK421.out⟩, ⟨by (try simp only [hl6_2]); (try simp only [hl8_2]); (with_reducible repeat (first | refine blk_drewN ?_ _ | refine blk_drew ?_ | refine blk_alloc ?_ _)); exact BK441.out⟩, ⟨by repeat (first | (with_reducible first | exact HB.out | apply below_alloc | apply pw_below_drewN | apply below_drew1 | refine below_set ?_ GE421.out | refine below_set ?_ GE441.out) | exact HB.out)⟩⟩
               case round =>
                clear H'
                try clear c1
                try clear c2
                try clear p2
                try clear c3
                try clear c4
                try clear c4b0
                try clear c4b1
                try clear p4
                try clear q4
                try clear hx4
                try clear hf4
                try clear p6
                try clear c7
                try clear c8
                try clear c9
                try clear c15
                try clear c17
                try clear c18
                try clear c28
                try clear c31
                try clear c31b0
                try clear c31b1
                try clear c32
                try clear c32b0
                try clear c32b1
                try clear c33
                try clear c33b0
                try clear c33b1
                try clear c34
                try clear c36
                try clear c37
                try clear c37b0
                try clear c38
                try clear c38b0
                try clear c39
                try clear c39b0
                try clear p40
                try clear q40
                try clear hx40
                try clear hf40
                try clear c41
                try clear hcz20_0
                try clear hcz20_1
                try clear hcz20_2
                try clear hcz20_3
                try clear hcz20_4
                try clear hcz20_5
                try clear hcz29_0
                try clear hcz29_1
                try clear hcz29_2
                try clear hcz29_3
                try clear hcz29_4
                try clear hcz29_5
                try clear hcz35_0
                try clear hcz35_1
                try clear hcz35_2
                try clear hcz35_3
                try clear hcz35_4
                try clear hcz35_5
                try clear hcz42_0
                try clear hcz42_1
                try clear hcz42_2
                try clear hcz42_3
                try clear hcz42_4
                try clear hcz42_5
                try clear hfz20_0
                try clear hfz20_1
                try clear hfz20_2
                try clear hfz20_3
                try clear hfz20_4
                try clear hfz20_5
                try clear hfz29_0
                try clear hfz29_1
                try clear hfz29_2
                try clear hfz29_3
                try clear hfz29_4
                try clear hfz29_5
                try clear hfz35_0
                try clear hfz35_1
                try clear hfz35_2
                try clear hfz35_3
                try clear hfz35_4
                try clear hfz35_5
                try clear hfz42_0
                try clear hfz42_1
                try clear hfz42_2
                try clear hfz42_3
                try clear hfz42_4
                try clear hfz42_5
                try clear hx40_0
                try clear p2
                try clear p40
                try clear q40
                obtain ⟨x8_3, x15_3, rfl, HA, HK3, HO_6, HO_8, HO_422005, HO_442005, BK421, BK441, HB⟩ := hrel
                have hl8_3 := (Kd.R_reads' HO_8.out).1
                rw [hl8_3] at HO_8
                (try simp only [hl8_3])
                (try simp only [hl8_3] at BK421)
                (try simp only [hl8_3] at BK441)
                (try simp only [hl8_3] at HO_6)
                (try simp only [hl8_3] at HO_422005)
                (try simp only [hl8_3] at HO_442005)
                cases gk with
                | zero => exact absurd HA.out (by simp [keepsakelaw21_CartOwn.l1])
                | succ k3 =>
                 have H := HA.out
                 clear HA
                 simp only [keepsakelaw21_CartOwn.l1] at H
                 by_cases c47 : x15_3 < 272
                 · rw [if_pos c47] at H
                   have c47b0 : decide (x15_3 < 272) = true := decide_eq_true c47
                   clear c47
                   by_cases c48 : 0 ≤ x15_3
                   · rw [if_pos c48] at H
                     have c48b0 : decide (0 ≤ x15_3) = true := decide_eq_true c48
                     clear c48
                     by_cases c49 : x15_3 < (x8_3.length : Int)
                     · rw [if_pos c49] at H
                       have c49b0 : decide (x15_3 < (x8_3.length : Int)) = true := decide_eq_true c49
                       clear c49
                       obtain ⟨y444, hy444⟩ : ∃ y_ : List Int, y_ = (x8_3.set (x15_3 : Int).toNat a1) := ⟨_, rfl⟩
                       replace H : (keepsakelaw21_CartOwn.l1 k3 a1 t411 x6_2 y444 t443 (wrap64 (x15_3 + 1)) t432 t433 t434 t435 t436 x442005_2) = some r := by first | (rw [hy444]; with_reducible exact H) | (have H2_ := (Option.bind_some _ _).symm.trans H; rw [hy444]; with_reducible exact H2_) | (have H2_ := (Option.bind_some _ _).symm.trans H; with_reducible exact H2_) | with_reducible exact H | (rw [hy444]; exact H) | exact H
                       have Ny444 := Aside0.mk hy444
                       clear hy444
                       have H' := Aside0.mk H
                       clear H
                       have p50 : 0 ≤ (x15_3 : Int) := of_decide_eq_true (by first | (with_reducible assumption) | assumption)
                       have q50 : (x15_3 : Int) < ((x8_3.length : Int) : Int) := of_decide_eq_true (by first | (with_reducible assumption) | assumption)
                       obtain ⟨go50, co50, eo50, gb50, gl50, cl50, HG50⟩ := Kd.R_form HO_8.out (by omega)
                       (first | cases eo50 | (injection eo50 with ea_ en_ ec_; (first | subst ea_ | (injection ea_ with ea_; subst ea_)); subst ec_; clear en_))
                       have GB50 := Aside0.mk gb50
                       have GG50 := Aside0.mk HG50
                       clear gb50 gl50 HG50
                       obtain ⟨hx50_0, hf50_0⟩ := Kd.R_celln 0 HO_8.out (x15_3 : Int) p50 q50
                       replace p50 := eq_true p50
                       replace q50 := eq_true q50
                       have HP51 := Kd.R_putg HO_8.out (x15_3 : Int) a1
                       go_wp2_with (first | ((with_reducible refine gate_store (t := 5) (p := 76) rfl ?_); refine store_event (t := 5) (p := 76) (v := ?vo_w52) (w1 := (wr.setCell ⟨go50, (x15_3 : Int).toNat, none⟩ (.int .u8 a1))) ?hg ?ho ?hn ?hr ?_; (case ho => rfl); (case hg => rfl); (case hn => rfl); (case hr => first | (go_simp; done) | (go_simp; rfl)); intro w52 hw; have hg : wr.grownBy w52 (some go50) := (by rw [hw]; exact HP51.2); have hp_ : Kd.R (Kd.int .u8) 5 w52 w.heap.size (fun k_ => some k_ ≠ (.slice Ao17 x6_2.length co17 : Value).ownBlock ∧ some k_ ≠ (u422005 : Value).ownBlock ∧ some k_ ≠ (u442005 : Value).ownBlock) (.slice (some ⟨go50, 0, none⟩) x8_3.length co25) y444 := (by rw [hw, Ny444.out]; exact HP51.1); clear HP51; have n0_ := Aside0.mk (Kd.R_after (v := (.slice (some ⟨go50, 0, none⟩) x8_3.length co25)) (v1 := (.slice (some ⟨go50, 0, none⟩) x8_3.length co25)) (ok := (fun k_ => some k_ ≠ (u422005 : Value).ownBlock ∧ some k_ ≠ (u442005 : Value).ownBlock)) (by (with_reducible repeat (first | apply Kd.R_alloc | apply Kd.R_drewN | apply Kd.R_drew)); exact Kd.R_mono HO_6.out (fun _ hk => ⟨⟨hk.2.1, hk.2.2⟩, hk.1⟩)) hg (.inl rfl)); have n1_ := Aside0.mk (hp_); have n2_ := Aside0.mk (Kd.R_after (v := (.slice (some ⟨go50, 0, none⟩) x8_3.length co25)) (v1 := (.slice (some ⟨go50, 0, none⟩) x8_3.length co25)) (ok := (fun k_ => some k_ ≠ (.slice Ao17 x6_2.length co17 : Value).ownBlock ∧ some k_ ≠ (u442005 : Value).ownBlock)) (by (with_reducible repeat (first | apply Kd.R_alloc | apply Kd.R_drewN | apply Kd.R_drew)); exact Kd.R_mono HO_422005.out (fun _ hk => ⟨⟨hk.1, hk.2.2⟩, hk.2.1⟩)) hg (.inl rfl)); have n3_ := Aside0.mk (Kd.R_after (v := (.slice (some ⟨go50, 0, none⟩) x8_3.length co25)) (v1 := (.slice (some ⟨go50, 0, none⟩) x8_3.length co25)) (ok := (fun k_ => some k_ ≠ (.slice Ao17 x6_2.length co17 : Value).ownBlock ∧ some k_ ≠ (u422005 : Value).ownBlock)) (by (with_reducible repeat (first | apply Kd.R_alloc | apply Kd.R_drewN | apply Kd.R_drew)); exact Kd.R_mono HO_442005.out (fun _ hk => ⟨⟨hk.1, hk.2.2⟩, hk.2.1⟩)) hg (.inl rfl)); have n4_ := Aside0.mk (blk_grown (g := gb421) (o := .cells #[.int .i64 8, .int .i64 1, .int .i64 0, .int .i64 0, .int .i64 0, u422005] 27 (0, 0)) (by (with_reducible repeat (first | refine blk_drewN ?_ _ | refine blk_drew ?_ | refine blk_alloc ?_ _)); exact BK421.out) hg (Kd.R_ne HO_8.out BK421.out (by decide))); have n5_ := Aside0.mk (blk_grown (g := gb441) (o := .cells #[.int .i64 t432, .int .i64 t433, .int .i64 t434, .int .i64 t435, .int .i64 t436, u442005] 27 (0, 0)) (by (with_reducible repeat (first | refine blk_drewN ?_ _ | refine blk_drew ?_ | refine blk_alloc ?_ _)); exact BK441.out) hg (Kd.R_ne HO_8.out BK441.out (by decide))); have n6_ := Aside0.mk ((by rw [hw]; exact below_set (HB.out) GB50.out : Below w.heap.size w w52)); clear HO_6; clear HO_8; clear HO_422005; clear HO_442005; clear BK421; clear BK441; clear HB; have HO_6 := n0_; have HO_8 := n1_; have HO_422005 := n2_; have HO_442005 := n3_; have BK421 := n4_; have BK441 := n5_; have HB := n6_; clear n0_ n1_ n2_ n3_ n4_ n5_ n6_; clear hg hw hp_))
                       (try simp only [← hl8_3])
                       go_roundg k3
                       case measure => have := HJ10.out; have := HK2.out; have := HK3.out; omega
                       case rel => exact ⟨(y444), (wrap64 (x15_3 + 1)), (by first | rfl | (simp; done) | (simp [*]; done) | (simp; omega)), H', ⟨by have := HJ10.out; have := HK2.out; have := HK3.out; omega⟩, ⟨by (try simp only [hl6_2]); (try simp only [hl8_2]); (try simp only [hl8_3]); (with_reducible repeat (first | apply Kd.R_alloc | apply Kd.R_drewN | apply Kd.R_drew)); exact Kd.R_mono HO_6.out (fun _ hk => ⟨hk.2, ⟨hk.1.1, hk.1.2⟩⟩)⟩, ⟨by (try simp only [hl6_2]); (try simp only [hl8_2]); (try simp only [hl8_3]); (with_reducible repeat (first | apply Kd.R_alloc | apply Kd.R_drewN | apply Kd.R_drew)); exact HO_8.out⟩, ⟨by (try simp only [hl6_2]); (try simp only [hl8_2]); (try simp only [hl8_3]); (with_reducible repeat (first | apply Kd.R_alloc | apply Kd.R_drewN | apply Kd.R_drew)); exact Kd.R_mono HO_422005.out (fun _ hk => ⟨hk.1.1, ⟨hk.2, hk.1.2⟩⟩)⟩, ⟨by (try simp only [hl6_2]); (try simp only [hl8_2]); (try simp only [hl8_3]); (with_reducible repeat (first | apply Kd.R_alloc | apply Kd.R_drewN | apply Kd.R_drew)); exact Kd.R_mono HO_442005.out (fun _ hk => ⟨hk.1.1, ⟨hk.2, hk.1.2⟩⟩)⟩, ⟨by (try simp only [hl6_2]); (try simp only [hl8_2]); (try simp only [hl8_3]); (with_reducible repeat (first | refine blk_drewN ?_ _ | refine blk_drew ?_ | refine blk_alloc ?_ _)); exact BK421.out⟩, ⟨by (try simp only [hl6_2]); (try simp only [hl8_2]); (try simp only [hl8_3]); (with_reducible repeat (first | refine blk_drewN ?_ _ | refine blk_drew ?_ | refine blk_alloc ?_ _)); exact BK441.out⟩, ⟨by repeat (first | (with_reducible first | exact HB.out | apply below_alloc | apply pw_below_drewN | apply below_drew1 | refine below_set ?_ GE421.out | refine below_set ?_ GE441.out) | exact HB.out)⟩⟩
                     · rw [if_neg c49] at H
                       exact absurd H (by simp)
                   · rw [if_neg c48] at H
                     exact absurd H (by simp)
                 · rw [if_neg c47] at H
                   have c47b0 : decide (x15_3 < 272) = false := decide_eq_false c47
                   clear c47
                   by_cases c53 : t411 = true
                   · subst c53
                     have H1 : (if t443 = true then ((keepsakeref01_Same.f k3 x442005_2 x6_2).bind fun t445 => (some t445)) else (none)) = some r := by rw [if_pos rfl] at H; exact H
                     clear H
                     have H := H1
                     clear H1
                     by_cases c54 : t443 = true
                     · subst c54
                       have H1 : ((keepsakeref01_Same.f k3 x442005_2 x6_2).bind fun t445 => (some t445)) = some r := by rw [if_pos rfl] at H; exact H
                       clear H
                       have H := H1
                       clear H1
                       replace H := Option.bind_eq_some_iff.mp H
                       obtain ⟨t445, A550, H⟩ := H
                       replace H : (some t445) = some r := H
                       have A55 := Aside0.mk A550
                       clear A550
                       obtain rfl := Option.some.inj H
                       have hnb56 := NB441_421.out
                       have hnc56 := NB421_441.out
                       have hcz57_0 : wr.cell? ⟨gb441, 0, none⟩ = some (.int .i64 t432) := (blk_cell BK441.out 0).trans rfl
                       have hcz57_1 : wr.cell? ⟨gb441, 1, none⟩ = some (.int .i64 t433) := (blk_cell BK441.out 1).trans rfl
                       have hcz57_2 : wr.cell? ⟨gb441, 2, none⟩ = some (.int .i64 t434) := (blk_cell BK441.out 2).trans rfl
                       have hcz57_3 : wr.cell? ⟨gb441, 3, none⟩ = some (.int .i64 t435) := (blk_cell BK441.out 3).trans rfl
                       have hcz57_4 : wr.cell? ⟨gb441, 4, none⟩ = some (.int .i64 t436) := (blk_cell BK441.out 4).trans rfl
                       have hcz57_5 : wr.cell? ⟨gb441, 5, none⟩ = some (u442005) := (blk_cell BK441.out 5).trans rfl
                       have hfz57_0 := blk_frozen BK441.out 0
                       have hfz57_1 := blk_frozen BK441.out 1
                       have hfz57_2 := blk_frozen BK441.out 2
                       have hfz57_3 := blk_frozen BK441.out 3
                       have hfz57_4 := blk_frozen BK441.out 4
                       have hfz57_5 := blk_frozen BK441.out 5
                       obtain ⟨Ao58, co58, eo58⟩ := Kd.R_slice HO_442005.out
                       subst eo58
                       go_wp2_with (first | (go_at_call 17; (with_reducible refine (keepsakeref01_Same.calls k3 _ _ x442005_2 _ _ x6_2 t445 _ ?side1 ?side2 ?side3 ?side4 A55.out).mono ?_); (case side1 => repeat (first | exact (Kd.R_reads' HO_442005.out).2.2 | (with_reducible refine Kd.C_alloc ?_ _) | (with_reducible refine Kd.C_drewN ?_ _) | (with_reducible refine Kd.C_drew ?_))); (case side2 => exact (Kd.R_reads' HO_442005.out).2.1); (case side3 => repeat (first | exact (Kd.R_reads' HO_6.out).2.2 | (with_reducible refine Kd.C_alloc ?_ _) | (with_reducible refine Kd.C_drewN ?_ _) | (with_reducible refine Kd.C_drew ?_))); (case side4 => exact (Kd.R_reads' HO_6.out).2.1); rintro e w' ⟨rfl, ⟨nd, rfl⟩⟩))
                       go_ret
                       exact ⟨by first | rfl | (simp [errW_none, errW_some] <;> rfl) | (simp [*, errW_none, errW_some] <;> rfl), by repeat (first | (with_reducible first | exact HB.out | apply below_alloc | apply pw_below_drewN | apply below_drew1 | refine below_set ?_ GE421.out | refine below_set ?_ GE441.out) | exact HB.out)⟩
                     · replace c54 := Bool.eq_false_iff.mpr c54
                       subst c54
                       have H1 : (none) = some r := by rw [if_neg (show ¬ (false = true) by decide)] at H; exact H
                       clear H
                       have H := H1
                       clear H1
                       exact absurd H (by simp)
                   · replace c53 := Bool.eq_false_iff.mpr c53
                     subst c53
                     have H1 : (none) = some r := by rw [if_neg (show ¬ (false = true) by decide)] at H; exact H
                     clear H
                     have H := H1
                     clear H1
                     exact absurd H (by simp)
     · rw [if_neg c9] at H
       exact absurd H (by simp)
   · rw [if_neg c7] at H
     exact absurd H (by simp)

/-- THE ONE PURE STATEMENT of keepsakelaw21_CartOwn: yours. -/
def keepsakelaw21_CartOwn.Pure : Prop := ∀ (l0 : List Int) (a1 : Int), l0.length ≤ maxLen → l0.length * 1 ≤ 140737488351232 → (∀ x ∈ l0, (Lit.int .u8 x).wf = true) → (Lit.int .u8 a1).wf = true → ∃ k, keepsakelaw21_CartOwn.f k l0 a1 = some true
theorem keepsakelaw21_CartOwn.walk (P : keepsakelaw21_CartOwn.Pure) (a0 : Option Addr) (len0 cap0 : Nat) (z0 : List Int) (a1 : Int) (w : World) (w0 : (a0 = none ∧ len0 = 0 ∧ cap0 = 0 ∧ z0 = []) ∨ ∃ x, a0 = some x ∧ len0 ≤ cap0 ∧ cap0 ≤ maxLen ∧ z0.length = cap0 ∧ (∀ i, i < z0.length → w.cell? (x.add i) = some (.int .u8 (z0.getD i 0))) ∧ ∀ n ∈ z0, (Lit.int .u8 n).wf = true) (y0 : len0 * 1 ≤ 140737488351232) (w1 : (Lit.int .u8 a1).wf = true) :
 Calls Try.prog 7 #[.slice a0 len0 cap0, .int .u8 a1] w fun e w' => e = .returned (.bool true) ∧ Below w.heap.size w w' := by
 obtain ⟨l0, rfl, hr0, hm0, hw0, hc0⟩ := ReadsInt.ofRowC w0
 obtain ⟨k, h⟩ := P l0 a1 hm0 y0 hw0 w1
 refine (keepsakelaw21_CartOwn.calls k _ _ l0 a1 true w (Kd.C_of_reads (d := (0 : Int)) (h1 := fun _ => rfl) hr0) hc0 h).mono ?_
 rintro e w' ⟨rfl, hd⟩
 exact ⟨rfl, hd⟩

end Go.Proofs.Ytoiiphlhdnlniaa.All
-- slimmed
