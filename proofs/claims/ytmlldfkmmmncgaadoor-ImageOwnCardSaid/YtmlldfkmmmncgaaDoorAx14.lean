-- written by a program of mine (xprint_patch.py over the kit's print)
import Derived.Test.YtmlldfkmmmncgaaDoorAx0
import Derived.Test.YtmlldfkmmmncgaaDoorAx2
import Derived.Test.YtmlldfkmmmncgaaDoorAx3
namespace Go.Proofs.YtmlldfkmmmncgaaDoor.Given
end Go.Proofs.YtmlldfkmmmncgaaDoor.Given
namespace Go.Proofs.YtmlldfkmmmncgaaDoor.All
open Go.Proofs.YtmlldfkmmmncgaaDoor.Given
open Go.RowKit Go.Proofs.YtmlldfkmmmncgaaDoorW.PrintWords Go.Proofs.YtmlldfkmmmncgaaDoorW.PrintLast Go.Proofs.YtmlldfkmmmncgaaDoorW.PrintMore
attribute [local go_sem] max2_int min2_int max_two min_two max_three min_three max_four min_four   -- for this text's walks alone
set_option linter.unusedVariables false
set_option linter.unusedSimpArgs false

/-! ### keepsakelaw05_ImageNeeds: function 5 -/
def keepsakelaw05_ImageNeeds.f (k : Nat) (a0 : Int) (a1 : Int) (a2 : Int) : Option (Bool) := (keepsakelaw05_awake.f k).bind fun t303 => ((image_Sectors.f (wrap64 (a0)) (wrap64 (1 + (wrap64 (Int.tmod a2 1000))))).bind fun t304 => ((image_Sectors.f (wrap64 (a1)) (wrap64 (1 + (wrap64 (Int.tmod a2 1000))))).bind fun t305 => ((image_Sectors.f (wrap64 ((wrap64 (a0)) + (wrap64 (a1)))) (wrap64 (1 + (wrap64 (Int.tmod a2 1000))))).bind fun t306 => (if t303 = true then (if t306 ≥ t304 then (if t306 ≥ t305 then (if t306 ≤ (wrap64 (t304 + t305)) then (if t306 ≥ (wrap64 ((wrap64 (t304 + t305)) - 1)) then (if ((t304 == 0) == (a0 == 0)) = true then (some (decide ((wrap64 (t304 * (wrap64 (1 + (wrap64 (Int.tmod a2 1000)))))) ≥ (wrap64 (a0))))) else (none)) else (none)) else (none)) else (none)) else (none)) else (none)))))
theorem keepsakelaw05_ImageNeeds.mono : ∀ a0 a1 a2 k, LeO (keepsakelaw05_ImageNeeds.f k a0 a1 a2) (keepsakelaw05_ImageNeeds.f (k + 1) a0 a1 a2) := by
  intro a0 a1 a2 k
  unfold keepsakelaw05_ImageNeeds.f
  repeat' first
      | (with_reducible exact keepsakelaw05_awake.mono _)
      | (with_reducible exact LeO.refl _)
      | (with_reducible exact LeO.none _)
      | (with_reducible refine LeO.ite ?_ ?_)
      | (with_reducible refine LeO.bind ?_ (fun _ => ?_))
      | exact keepsakelaw05_awake.mono _
      | exact LeO.none _
      | refine LeO.ite ?_ ?_
      | refine LeO.bind ?_ (fun _ => ?_)
set_option maxHeartbeats 8000000 in
set_option maxRecDepth 100000 in
theorem keepsakelaw05_ImageNeeds.calls (k : Nat) (a0 : Int) (a1 : Int) (a2 : Int) (r : Bool) (w : World) (hG : Laid w) (h : keepsakelaw05_ImageNeeds.f k a0 a1 a2 = some r) :
    Calls Tryd.prog 5 #[.int .u16 a0, .int .u16 a1, .int .u16 a2] w fun e w' => e = .returned (.bool r) ∧ Below w.heap.size w w' := by
  have HG := Aside0.mk hG
  clear hG
  have HB := Aside0.mk (Below.refl w.heap.size w)
  have H : ((keepsakelaw05_awake.f k).bind fun t303 => ((image_Sectors.f (wrap64 (a0)) (wrap64 (1 + (wrap64 (Int.tmod a2 1000))))).bind fun t304 => ((image_Sectors.f (wrap64 (a1)) (wrap64 (1 + (wrap64 (Int.tmod a2 1000))))).bind fun t305 => ((image_Sectors.f (wrap64 ((wrap64 (a0)) + (wrap64 (a1)))) (wrap64 (1 + (wrap64 (Int.tmod a2 1000))))).bind fun t306 => (if t303 = true then (if t306 ≥ t304 then (if t306 ≥ t305 then (if t306 ≤ (wrap64 (t304 + t305)) then (if t306 ≥ (wrap64 ((wrap64 (t304 + t305)) - 1)) then (if ((t304 == 0) == (a0 == 0)) = true then (some (decide ((wrap64 (t304 * (wrap64 (1 + (wrap64 (Int.tmod a2 1000)))))) ≥ (wrap64 (a0))))) else (none)) else (none)) else (none)) else (none)) else (none)) else (none)))))) = some r := h
  clear h
  replace H := Option.bind_eq_some_iff.mp H
  obtain ⟨t303, A40, H⟩ := H
  replace H : ((image_Sectors.f (wrap64 (a0)) (wrap64 (1 + (wrap64 (Int.tmod a2 1000))))).bind fun t304 => ((image_Sectors.f (wrap64 (a1)) (wrap64 (1 + (wrap64 (Int.tmod a2 1000))))).bind fun t305 => ((image_Sectors.f (wrap64 ((wrap64 (a0)) + (wrap64 (a1)))) (wrap64 (1 + (wrap64 (Int.tmod a2 1000))))).bind fun t306 => (if t303 = true then (if t306 ≥ t304 then (if t306 ≥ t305 then (if t306 ≤ (wrap64 (t304 + t305)) then (if t306 ≥ (wrap64 ((wrap64 (t304 + t305)) - 1)) then (if ((t304 == 0) == (a0 == 0)) = true then (some (decide ((wrap64 (t304 * (wrap64 (1 + (wrap64 (Int.tmod a2 1000)))))) ≥ (wrap64 (a0))))) else (none)) else (none)) else (none)) else (none)) else (none)) else (none))))) = some r := H
  have A4 := Aside0.mk A40
  clear A40
  replace H := Option.bind_eq_some_iff.mp H
  obtain ⟨t304, A50, H⟩ := H
  replace H : ((image_Sectors.f (wrap64 (a1)) (wrap64 (1 + (wrap64 (Int.tmod a2 1000))))).bind fun t305 => ((image_Sectors.f (wrap64 ((wrap64 (a0)) + (wrap64 (a1)))) (wrap64 (1 + (wrap64 (Int.tmod a2 1000))))).bind fun t306 => (if t303 = true then (if t306 ≥ t304 then (if t306 ≥ t305 then (if t306 ≤ (wrap64 (t304 + t305)) then (if t306 ≥ (wrap64 ((wrap64 (t304 + t305)) - 1)) then (if ((t304 == 0) == (a0 == 0)) = true then (some (decide ((wrap64 (t304 * (wrap64 (1 + (wrap64 (Int.tmod a2 1000)))))) ≥ (wrap64 (a0))))) else (none)) else (none)) else (none)) else (none)) else (none)) else (none)))) = some r := H
  have A5 := Aside0.mk A50
  clear A50
  replace H := Option.bind_eq_some_iff.mp H
  obtain ⟨t305, A60, H⟩ := H
  replace H : ((image_Sectors.f (wrap64 ((wrap64 (a0)) + (wrap64 (a1)))) (wrap64 (1 + (wrap64 (Int.tmod a2 1000))))).bind fun t306 => (if t303 = true then (if t306 ≥ t304 then (if t306 ≥ t305 then (if t306 ≤ (wrap64 (t304 + t305)) then (if t306 ≥ (wrap64 ((wrap64 (t304 + t305)) - 1)) then (if ((t304 == 0) == (a0 == 0)) = true then (some (decide ((wrap64 (t304 * (wrap64 (1 + (wrap64 (Int.tmod a2 1000)))))) ≥ (wrap64 (a0))))) else (none)) else (none)) else (none)) else (none)) else (none)) else (none))) = some r := H
  have A6 := Aside0.mk A60
  clear A60
  replace H := Option.bind_eq_some_iff.mp H
  obtain ⟨t306, A70, H⟩ := H
  replace H : (if t303 = true then (if t306 ≥ t304 then (if t306 ≥ t305 then (if t306 ≤ (wrap64 (t304 + t305)) then (if t306 ≥ (wrap64 ((wrap64 (t304 + t305)) - 1)) then (if ((t304 == 0) == (a0 == 0)) = true then (some (decide ((wrap64 (t304 * (wrap64 (1 + (wrap64 (Int.tmod a2 1000)))))) ≥ (wrap64 (a0))))) else (none)) else (none)) else (none)) else (none)) else (none)) else (none)) = some r := H
  have A7 := Aside0.mk A70
  clear A70
  by_cases c8 : t303 = true
  · subst c8
    have H1 : (if t306 ≥ t304 then (if t306 ≥ t305 then (if t306 ≤ (wrap64 (t304 + t305)) then (if t306 ≥ (wrap64 ((wrap64 (t304 + t305)) - 1)) then (if ((t304 == 0) == (a0 == 0)) = true then (some (decide ((wrap64 (t304 * (wrap64 (1 + (wrap64 (Int.tmod a2 1000)))))) ≥ (wrap64 (a0))))) else (none)) else (none)) else (none)) else (none)) else (none)) = some r := by rw [if_pos rfl] at H; exact H
    clear H
    have H := H1
    clear H1
    by_cases c9 : t306 ≥ t304
    · rw [if_pos c9] at H
      have c9b0 : decide (t304 ≤ t306) = true := decide_eq_true c9
      clear c9
      by_cases c10 : t306 ≥ t305
      · rw [if_pos c10] at H
        have c10b0 : decide (t305 ≤ t306) = true := decide_eq_true c10
        clear c10
        by_cases c11 : t306 ≤ (wrap64 (t304 + t305))
        · rw [if_pos c11] at H
          have c11b0 : decide (t306 ≤ (wrap64 (t304 + t305))) = true := decide_eq_true c11
          clear c11
          by_cases c12 : t306 ≥ (wrap64 ((wrap64 (t304 + t305)) - 1))
          · rw [if_pos c12] at H
            have c12b0 : decide ((wrap64 ((wrap64 (t304 + t305)) - 1)) ≤ t306) = true := decide_eq_true c12
            clear c12
            by_cases c13 : ((t304 == 0) == (a0 == 0)) = true
            · rw [if_pos c13] at H
              have c13b0 : ((t304 == 0) == (a0 == 0)) = true := c13
              (try (have c13b1 : decide ((t304 == 0) = (a0 == 0)) = true := by simpa using c13))
              (try (have c13b2 : ((t304 == 0) == (a0 == 0)) = true := by simpa using c13))
              clear c13
              obtain rfl := Option.some.inj H
              go_enter Tryd.func5, Tryd.ntmps5
              go_wp2_with (first | ((with_reducible refine gate_callee (f := 10) rfl ?_); refine goesL_ (some 12) rfl rfl Tryd.func10 (by kernel_rfl) rfl #[] rfl (by (try simp only [List.map_toArray, List.map_cons, List.map_nil]); first | done | rfl | (simp only [List.length_drop, List.length_take]; rfl)) ?_; (with_reducible refine (keepsakelaw05_awake.calls k  true _ ?sideG A4.out).mono ?_); (case sideG => repeat (first | exact Laid.below HG.out HB.out | exact HG.out | (with_reducible refine Laid.alloc ?_ _) | (with_reducible refine Laid.drewN ?_ _) | (with_reducible refine Laid.drew ?_))); rintro e w14 ⟨rfl, hb⟩; refine ⟨_, rfl, ?_⟩; have n0_ := Aside0.mk (below_step (by repeat (first | (with_reducible first | exact HB.out | apply below_alloc | apply pw_below_drewN | apply below_drew1) | exact HB.out)) hb); clear HB; have HB := n0_; clear n0_; (try clear hb); (try clear hb2); (try clear hk); (try clear hi)) | ((with_reducible refine gate_callee (f := 15) rfl ?_); refine goesL_ (some 20) rfl rfl Tryd.func15 (by kernel_rfl) rfl #[.int .i64 (wrap64 (a0)), .int .i64 (wrap64 (1 + (wrap64 (Int.tmod a2 1000))))] rfl (by (try simp only [List.map_toArray, List.map_cons, List.map_nil]); first | done | rfl | (simp only [List.length_drop, List.length_take]; rfl)) ?_; (with_reducible refine (image_Sectors.calls (wrap64 (a0)) (wrap64 (1 + (wrap64 (Int.tmod a2 1000)))) t304 _ A5.out).mono ?_); rintro e w' ⟨rfl, ⟨nd, rfl⟩⟩; refine ⟨_, rfl, ?_⟩) | ((with_reducible refine gate_callee (f := 15) rfl ?_); refine goesL_ (some 24) rfl rfl Tryd.func15 (by kernel_rfl) rfl #[.int .i64 (wrap64 (a1)), .int .i64 (wrap64 (1 + (wrap64 (Int.tmod a2 1000))))] rfl (by (try simp only [List.map_toArray, List.map_cons, List.map_nil]); first | done | rfl | (simp only [List.length_drop, List.length_take]; rfl)) ?_; (with_reducible refine (image_Sectors.calls (wrap64 (a1)) (wrap64 (1 + (wrap64 (Int.tmod a2 1000)))) t305 _ A6.out).mono ?_); rintro e w' ⟨rfl, ⟨nd, rfl⟩⟩; refine ⟨_, rfl, ?_⟩) | ((with_reducible refine gate_callee (f := 15) rfl ?_); refine goesL_ (some 31) rfl rfl Tryd.func15 (by kernel_rfl) rfl #[.int .i64 (wrap64 ((wrap64 (a0)) + (wrap64 (a1)))), .int .i64 (wrap64 (1 + (wrap64 (Int.tmod a2 1000))))] rfl (by (try simp only [List.map_toArray, List.map_cons, List.map_nil]); first | done | rfl | (simp only [List.length_drop, List.length_take]; rfl)) ?_; (with_reducible refine (image_Sectors.calls (wrap64 ((wrap64 (a0)) + (wrap64 (a1)))) (wrap64 (1 + (wrap64 (Int.tmod a2 1000)))) t306 _ A7.out).mono ?_); rintro e w' ⟨rfl, ⟨nd, rfl⟩⟩; refine ⟨_, rfl, ?_⟩))
              go_ret
              exact ⟨by first | rfl | (simp [errW_none, errW_some] <;> rfl) | (simp [*, errW_none, errW_some] <;> rfl), by repeat (first | (with_reducible first | exact HB.out | apply below_alloc | apply pw_below_drewN | apply below_drew1) | exact HB.out)⟩
            · rw [if_neg c13] at H
              exact absurd H (by simp)
          · rw [if_neg c12] at H
            exact absurd H (by simp)
        · rw [if_neg c11] at H
          exact absurd H (by simp)
      · rw [if_neg c10] at H
        exact absurd H (by simp)
    · rw [if_neg c9] at H
      exact absurd H (by simp)
  · replace c8 := Bool.eq_false_iff.mpr c8
    subst c8
    have H1 : (none) = some r := by rw [if_neg (show ¬ (false = true) by decide)] at H; exact H
    clear H
    have H := H1
    clear H1
    exact absurd H (by simp)

/-- THE ONE PURE STATEMENT of keepsakelaw05_ImageNeeds: yours. -/
def keepsakelaw05_ImageNeeds.Pure : Prop := ∀ (a0 : Int) (a1 : Int) (a2 : Int), (Lit.int .u16 a0).wf = true → (Lit.int .u16 a1).wf = true → (Lit.int .u16 a2).wf = true → ∃ k, keepsakelaw05_ImageNeeds.f k a0 a1 a2 = some true
theorem keepsakelaw05_ImageNeeds.walk (P : keepsakelaw05_ImageNeeds.Pure) (a0 : Int) (a1 : Int) (a2 : Int) (w : World) (hG : Laid w) (w0 : (Lit.int .u16 a0).wf = true) (w1 : (Lit.int .u16 a1).wf = true) (w2 : (Lit.int .u16 a2).wf = true) :
    Calls Tryd.prog 5 #[.int .u16 a0, .int .u16 a1, .int .u16 a2] w fun e w' => e = .returned (.bool true) ∧ Below w.heap.size w w' := by
  obtain ⟨k, h⟩ := P a0 a1 a2 w0 w1 w2
  refine (keepsakelaw05_ImageNeeds.calls k a0 a1 a2 true w hG h).mono ?_
  rintro e w' ⟨rfl, hd⟩
  exact ⟨rfl, hd⟩

end Go.Proofs.YtmlldfkmmmncgaaDoor.All
