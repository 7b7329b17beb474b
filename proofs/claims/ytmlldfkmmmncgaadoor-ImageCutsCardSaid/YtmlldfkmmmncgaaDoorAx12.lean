-- written by a program of mine (xprint_patch.py over the kit's print)
import Derived.Test.YtmlldfkmmmncgaaDoorAx0
import Derived.Test.YtmlldfkmmmncgaaDoorAx2
import Derived.Test.YtmlldfkmmmncgaaDoorAx3
import Derived.Test.YtmlldfkmmmncgaaDoorAx11
import Derived.Test.YtmlldfkmmmncgaaDoorGlue
import Derived.Test.YtmlldfkmmmncgaaDoorPieces
namespace Go.Proofs.YtmlldfkmmmncgaaDoor.Given
end Go.Proofs.YtmlldfkmmmncgaaDoor.Given
namespace Go.Proofs.YtmlldfkmmmncgaaDoor.All
open Go.Proofs.YtmlldfkmmmncgaaDoor.Given
open Go.RowKit Go.Proofs.YtmlldfkmmmncgaaDoorW.PrintWords Go.Proofs.YtmlldfkmmmncgaaDoorW.PrintLast Go.Proofs.YtmlldfkmmmncgaaDoorW.PrintMore
attribute [local go_sem] max2_int min2_int max_two min_two max_three min_three max_four min_four   -- for this text's walks alone
set_option linter.unusedVariables false
set_option linter.unusedSimpArgs false

/-! ### keepsakelaw05_ImageCuts: function 7 -/
mutual
def keepsakelaw05_ImageCuts.j0 : Nat → List Int → Int → List (List Int) → Int → Bool → Bool → Option (Bool)
  | 0, _, _, _, _, _, _ => none
  | k + 1, x0, x1, x2, x3, x9, x27 => if x27 = true then (some x9) else (keepsakelaw05_ImageCuts.l0 k x0 x1 x2 x3 x9 0)
def keepsakelaw05_ImageCuts.l0 : Nat → List Int → Int → List (List Int) → Int → Bool → Int → Option (Bool)
  | 0, _, _, _, _, _, _ => none
  | k + 1, x0, x1, x2, x3, x9, x10 => if x10 < (x2.length : Int) then (if 0 ≤ x10 then (if ((rd_L1 x2 x10).length : Int) > 50 then (some x9) else (keepsakelaw05_ImageCuts.l0 k x0 x1 x2 x3 x9 (wrap64 (x10 + 1)))) else (none)) else ((image_Cut.f x0 x1).bind fun bt267 => ((keepsakeref05_Cut.f k x0 x1).bind fun bt271 => ((image_Glue.f x2 x3).bind fun bt275 => ((keepsakeref05_Glue.f k x2 x3).bind fun bt279 => (if x9 = true then (if bt267.2 = bt271.2 then ((keepsakeref05_Lists.f k bt267.1 bt271.1).bind fun t283 => (if t283 = true then (if bt275.2 = bt279.2 then ((keepsakeref01_Same.f k bt275.1 bt279.1).bind fun t284 => (if t284 = true then ((image_Sectors.f x3 x1).bind fun t285 => ((keepsakeref05_Sectors.f k x3 x1).bind fun t286 => (some (t285 == t286)))) else (none))) else (none)) else (none))) else (none)) else (none))))))
end
def keepsakelaw05_ImageCuts.f (k : Nat) (l0 : List Int) (a1 : Int) (l2 : List (List Int)) (a3 : Int) : Option (Bool) := (keepsakelaw05_awake.f k).bind fun t265 => (if (l0.length : Int) > 300 then (keepsakelaw05_ImageCuts.j0 k l0 a1 l2 a3 t265 true) else (keepsakelaw05_ImageCuts.j0 k l0 a1 l2 a3 t265 (decide ((l2.length : Int) > 30))))
theorem keepsakelaw05_ImageCuts.mono_l : ∀ k, (∀ y0 y1 y2 y3 y4 y5, LeO (keepsakelaw05_ImageCuts.j0 k y0 y1 y2 y3 y4 y5) (keepsakelaw05_ImageCuts.j0 (k + 1) y0 y1 y2 y3 y4 y5)) ∧ (∀ y0 y1 y2 y3 y4 y5, LeO (keepsakelaw05_ImageCuts.l0 k y0 y1 y2 y3 y4 y5) (keepsakelaw05_ImageCuts.l0 (k + 1) y0 y1 y2 y3 y4 y5))
  | 0 => ⟨fun _ _ _ _ _ _ r h => by simp [keepsakelaw05_ImageCuts.j0] at h, fun _ _ _ _ _ _ r h => by simp [keepsakelaw05_ImageCuts.l0] at h⟩
  | k + 1 => by
    obtain ⟨ih0, ih1⟩ := keepsakelaw05_ImageCuts.mono_l k
    refine ⟨?_, ?_⟩
    · intro y0 y1 y2 y3 y4 y5
      unfold keepsakelaw05_ImageCuts.j0
      repeat' first
      | (with_reducible exact ih0 _ _ _ _ _ _)
      | (with_reducible exact ih1 _ _ _ _ _ _)
      | (with_reducible exact keepsakelaw05_awake.mono _)
      | (with_reducible exact keepsakeref01_Same.mono _ _ _)
      | (with_reducible exact keepsakeref05_Cut.mono _ _ _)
      | (with_reducible exact keepsakeref05_Glue.mono _ _ _)
      | (with_reducible exact keepsakeref05_Lists.mono _ _ _)
      | (with_reducible exact keepsakeref05_Sectors.mono _ _ _)
      | (with_reducible exact LeO.refl _)
      | (with_reducible exact LeO.none _)
      | (with_reducible refine LeO.ite ?_ ?_)
      | (with_reducible refine LeO.bind ?_ (fun _ => ?_))
      | exact ih0 _ _ _ _ _ _
      | exact ih1 _ _ _ _ _ _
      | exact keepsakelaw05_awake.mono _
      | exact keepsakeref01_Same.mono _ _ _
      | exact keepsakeref05_Cut.mono _ _ _
      | exact keepsakeref05_Glue.mono _ _ _
      | exact keepsakeref05_Lists.mono _ _ _
      | exact keepsakeref05_Sectors.mono _ _ _
      | exact LeO.none _
      | refine LeO.ite ?_ ?_
      | refine LeO.bind ?_ (fun _ => ?_)
    · intro y0 y1 y2 y3 y4 y5
      unfold keepsakelaw05_ImageCuts.l0
      repeat' first
      | (with_reducible exact ih0 _ _ _ _ _ _)
      | (with_reducible exact ih1 _ _ _ _ _ _)
      | (with_reducible exact keepsakelaw05_awake.mono _)
      | (with_reducible exact keepsakeref01_Same.mono _ _ _)
      | (with_reducible exact keepsakeref05_Cut.mono _ _ _)
      | (with_reducible exact keepsakeref05_Glue.mono _ _ _)
      | (with_reducible exact keepsakeref05_Lists.mono _ _ _)
      | (with_reducible exact keepsakeref05_Sectors.mono _ _ _)
      | (with_reducible exact LeO.refl _)
      | (with_reducible exact LeO.none _)
      | (with_reducible refine LeO.ite ?_ ?_)
      | (with_reducible refine LeO.bind ?_ (fun _ => ?_))
      | exact ih0 _ _ _ _ _ _
      | exact ih1 _ _ _ _ _ _
      | exact keepsakelaw05_awake.mono _
      | exact keepsakeref01_Same.mono _ _ _
      | exact keepsakeref05_Cut.mono _ _ _
      | exact keepsakeref05_Glue.mono _ _ _
      | exact keepsakeref05_Lists.mono _ _ _
      | exact keepsakeref05_Sectors.mono _ _ _
      | exact LeO.none _
      | refine LeO.ite ?_ ?_
      | refine LeO.bind ?_ (fun _ => ?_)
theorem keepsakelaw05_ImageCuts.mono : ∀ a0 a1 a2 a3 k, LeO (keepsakelaw05_ImageCuts.f k a0 a1 a2 a3) (keepsakelaw05_ImageCuts.f (k + 1) a0 a1 a2 a3) := by
  intro a0 a1 a2 a3 k
  obtain ⟨ih0, ih1⟩ := keepsakelaw05_ImageCuts.mono_l k
  unfold keepsakelaw05_ImageCuts.f
  repeat' first
      | (with_reducible exact ih0 _ _ _ _ _ _)
      | (with_reducible exact ih1 _ _ _ _ _ _)
      | (with_reducible exact keepsakelaw05_awake.mono _)
      | (with_reducible exact keepsakeref01_Same.mono _ _ _)
      | (with_reducible exact keepsakeref05_Cut.mono _ _ _)
      | (with_reducible exact keepsakeref05_Glue.mono _ _ _)
      | (with_reducible exact keepsakeref05_Lists.mono _ _ _)
      | (with_reducible exact keepsakeref05_Sectors.mono _ _ _)
      | (with_reducible exact LeO.refl _)
      | (with_reducible exact LeO.none _)
      | (with_reducible refine LeO.ite ?_ ?_)
      | (with_reducible refine LeO.bind ?_ (fun _ => ?_))
      | exact ih0 _ _ _ _ _ _
      | exact ih1 _ _ _ _ _ _
      | exact keepsakelaw05_awake.mono _
      | exact keepsakeref01_Same.mono _ _ _
      | exact keepsakeref05_Cut.mono _ _ _
      | exact keepsakeref05_Glue.mono _ _ _
      | exact keepsakeref05_Lists.mono _ _ _
      | exact keepsakeref05_Sectors.mono _ _ _
      | exact LeO.none _
      | refine LeO.ite ?_ ?_
      | refine LeO.bind ?_ (fun _ => ?_)
set_option maxHeartbeats 8000000 in
set_option maxRecDepth 100000 in
theorem keepsakelaw05_ImageCuts.calls (k : Nat) (A0 : Option Addr) (c0 : Nat) (l0 : List Int) (a1 : Int) (A2 : Option Addr) (c2 : Nat) (l2 : List (List Int)) (a3 : Int) (r : Bool) (w : World) (hG : Laid w) (hr0 : Kd.C (Kd.int .u8) w A0 l0.length l0) (hc0 : l0.length ≤ c0) (hr2 : Kd.C (Kd.slice 5 (Kd.int .u8)) w A2 l2.length l2) (hc2 : l2.length ≤ c2) (h : keepsakelaw05_ImageCuts.f k l0 a1 l2 a3 = some r) :
    Calls Tryd.prog 7 #[.slice A0 l0.length c0, .int .i64 a1, .slice A2 l2.length c2, .int .i64 a3] w fun e w' => e = .returned (.bool r) ∧ Below w.heap.size w w' := by
  have HG := Aside0.mk hG
  clear hG
  have HR0 := Aside0.mk hr0
  have HC0 := Aside0.mk hc0
  clear hr0 hc0
  have HR2 := Aside0.mk hr2
  have HC2 := Aside0.mk hc2
  clear hr2 hc2
  have HB := Aside0.mk (Below.refl w.heap.size w)
  have H : ((keepsakelaw05_awake.f k).bind fun t265 => (if (l0.length : Int) > 300 then (keepsakelaw05_ImageCuts.j0 k l0 a1 l2 a3 t265 true) else (keepsakelaw05_ImageCuts.j0 k l0 a1 l2 a3 t265 (decide ((l2.length : Int) > 30))))) = some r := h
  clear h
  replace H := Option.bind_eq_some_iff.mp H
  obtain ⟨t265, A50, H⟩ := H
  replace H : (if (l0.length : Int) > 300 then (keepsakelaw05_ImageCuts.j0 k l0 a1 l2 a3 t265 true) else (keepsakelaw05_ImageCuts.j0 k l0 a1 l2 a3 t265 (decide ((l2.length : Int) > 30)))) = some r := H
  have A5 := Aside0.mk A50
  clear A50
  have HC6 := Aside0.mk H
  clear H
  go_enter Tryd.func7, Tryd.ntmps7
  go_upto_region 2 with (first | ((with_reducible refine gate_callee (f := 10) rfl ?_); refine goesL_ (some 19) rfl rfl Tryd.func10 (by kernel_rfl) rfl #[] rfl (by (try simp only [List.map_toArray, List.map_cons, List.map_nil]); first | done | rfl | (simp only [List.length_drop, List.length_take]; rfl)) ?_; (with_reducible refine (keepsakelaw05_awake.calls k  t265 _ ?sideG A5.out).mono ?_); (case sideG => repeat (first | exact Laid.below HG.out HB.out | exact HG.out | (with_reducible refine Laid.alloc ?_ _) | (with_reducible refine Laid.drewN ?_ _) | (with_reducible refine Laid.drew ?_))); rintro e w7 ⟨rfl, hb⟩; refine ⟨_, rfl, ?_⟩; have n0_ := Aside0.mk (below_step (by repeat (first | (with_reducible first | exact HB.out | apply below_alloc | apply pw_below_drewN | apply below_drew1) | exact HB.out)) hb); clear HB; have HB := n0_; clear n0_; (try clear hb); (try clear hb2); (try clear hk); (try clear hi)))
  (try simp only [Act.put, List.setIfInBounds_toArray, List.set_cons_zero, List.set_cons_succ])
  go_cut [27] (fun v27 wc => ∃ (kq : Nat) (x27_5 : Bool), v27 = .bool x27_5 ∧ Aside0 (keepsakelaw05_ImageCuts.j0 kq l0 a1 l2 a3 t265 x27_5 = some r) ∧ Aside0 (kq ≤ k) ∧ Aside0 (Below w.heap.size w wc))
  case first =>
    have H := HC6.out
    clear HC6
    by_cases c8 : (l0.length : Int) > 300
    · rw [if_pos c8] at H
      have c8b0 : decide (300 < (l0.length : Int)) = true := decide_eq_true c8
      have c8b1 : decide (300 < l0.length) = true := decide_eq_true (by omega)
      clear c8
      (first | rw [c8b0] | (simp only [i64_w, i32_w]; rw [c8b0]) | skip)
      have H' := Aside0.mk H
      clear H
      go_wp2
      go_meet
      case rel => exact ⟨_, (true), (by first | rfl | (simp; done) | (simp [*]; done) | (simp; omega)), H', ⟨by first | omega | exact Nat.le_refl _⟩, ⟨by repeat (first | (with_reducible first | exact HB.out | apply below_alloc | apply pw_below_drewN | apply below_drew1) | exact HB.out)⟩⟩
    · rw [if_neg c8] at H
      have c8b0 : decide (300 < (l0.length : Int)) = false := decide_eq_false c8
      have c8b1 : decide (300 < l0.length) = false := decide_eq_false (by omega)
      clear c8
      (first | rw [c8b0] | (simp only [i64_w, i32_w]; rw [c8b0]) | skip)
      have H' := Aside0.mk H
      clear H
      go_wp2
      go_meet
      case rel => exact ⟨_, (decide ((l2.length : Int) > 30)), (by first | rfl | (simp; done) | (simp [*]; done) | (simp; omega)), H', ⟨by first | omega | exact Nat.le_refl _⟩, ⟨by repeat (first | (with_reducible first | exact HB.out | apply below_alloc | apply pw_below_drewN | apply below_drew1) | exact HB.out)⟩⟩
  case rest =>
    clear HC6
    try clear c1
    try clear c2
    try clear p2
    try clear c7
    try clear c8
    try clear c8b0
    try clear c8b1
    obtain ⟨kq, x27_5, rfl, HA, HJ5, HB⟩ := hcut
    cases kq with
    | zero => exact absurd HA.out (by simp [keepsakelaw05_ImageCuts.j0])
    | succ kj5 =>
      have H := HA.out
      clear HA
      simp only [keepsakelaw05_ImageCuts.j0] at H
      by_cases c9 : x27_5 = true
      · subst c9
        have H1 : (some t265) = some r := by rw [if_pos rfl] at H; exact H
        clear H
        have H := H1
        clear H1
        obtain rfl := Option.some.inj H
        go_wp2
        go_ret
        exact ⟨by first | rfl | (simp [errW_none, errW_some] <;> rfl) | (simp [*, errW_none, errW_some] <;> rfl), by repeat (first | (with_reducible first | exact HB.out | apply below_alloc | apply pw_below_drewN | apply below_drew1) | exact HB.out)⟩
      · replace c9 := Bool.eq_false_iff.mpr c9
        subst c9
        have H1 : (keepsakelaw05_ImageCuts.l0 kj5 l0 a1 l2 a3 t265 0) = some r := by rw [if_neg (show ¬ (false = true) by decide)] at H; exact H
        clear H
        have H := H1
        clear H1
        have H' := Aside0.mk H
        clear H
        go_wp2
        go_loopg [10] kj5 (fun kq v10 w' => ∃ (x10_2 : Int), v10 = .int .i64 x10_2 ∧ Aside0 (keepsakelaw05_ImageCuts.l0 kq l0 a1 l2 a3 t265 x10_2 = some r) ∧ Aside0 (kq ≤ kj5) ∧ Aside0 (Below w.heap.size w w'))
        case atStart => exact ⟨(0), (by first | rfl | (simp; done) | (simp [*]; done) | (simp; omega)), H', ⟨Nat.le_refl _⟩, ⟨by repeat (first | (with_reducible first | exact HB.out | apply below_alloc | apply pw_below_drewN | apply below_drew1) | exact HB.out)⟩⟩
        case round =>
          clear H'
          try clear c1
          try clear c2
          try clear p2
          try clear c7
          try clear c8
          try clear c8b0
          try clear c8b1
          try clear c9
          try clear p2
          obtain ⟨x10_2, rfl, HA, HK2, HB⟩ := hrel
          cases gk with
          | zero => exact absurd HA.out (by simp [keepsakelaw05_ImageCuts.l0])
          | succ k2 =>
            have H := HA.out
            clear HA
            simp only [keepsakelaw05_ImageCuts.l0] at H
            by_cases c10 : x10_2 < (l2.length : Int)
            · rw [if_pos c10] at H
              have c10b0 : decide (x10_2 < (l2.length : Int)) = true := decide_eq_true c10
              clear c10
              by_cases c11 : 0 ≤ x10_2
              · rw [if_pos c11] at H
                have c11b0 : decide (0 ≤ x10_2) = true := decide_eq_true c11
                clear c11
                by_cases c12 : ((rd_L1 l2 x10_2).length : Int) > 50
                · rw [if_pos c12] at H
                  have c12b0 : decide (50 < ((rd_L1 l2 x10_2).length : Int)) = true := decide_eq_true c12
                  have c12b1 : decide (50 < (rd_L1 l2 x10_2).length) = true := decide_eq_true (by omega)
                  clear c12
                  obtain rfl := Option.some.inj H
                  have p266 : 0 ≤ (x10_2 : Int) := of_decide_eq_true (by first | (with_reducible assumption) | assumption)
                  have q266 : x10_2 < (l2.length : Int) := of_decide_eq_true (by first | (with_reducible assumption) | assumption)
                  obtain ⟨ad266, A266_0, c266_0, e266, hx266_0, hl266_0, hi266_0⟩ := at_L1 HR2.out x10_2 p266 q266
                  cases e266
                  replace hx266_0 := (HB.out.cell (World.block_lt_of_cell? w _ hx266_0)).trans hx266_0
                  have HR266_0 := Aside0.mk hi266_0
                  have HC266_0 := Aside0.mk hl266_0
                  clear hi266_0 hl266_0
                  replace p266 := eq_true p266
                  replace q266 := eq_true q266
                  go_wp2
                  go_ret
                  exact ⟨by first | rfl | (simp [errW_none, errW_some] <;> rfl) | (simp [*, errW_none, errW_some] <;> rfl), by repeat (first | (with_reducible first | exact HB.out | apply below_alloc | apply pw_below_drewN | apply below_drew1) | exact HB.out)⟩
                · rw [if_neg c12] at H
                  have c12b0 : decide (50 < ((rd_L1 l2 x10_2).length : Int)) = false := decide_eq_false c12
                  have c12b1 : decide (50 < (rd_L1 l2 x10_2).length) = false := decide_eq_false (by omega)
                  clear c12
                  have H' := Aside0.mk H
                  clear H
                  have p266 : 0 ≤ (x10_2 : Int) := of_decide_eq_true (by first | (with_reducible assumption) | assumption)
                  have q266 : x10_2 < (l2.length : Int) := of_decide_eq_true (by first | (with_reducible assumption) | assumption)
                  obtain ⟨ad266, A266_0, c266_0, e266, hx266_0, hl266_0, hi266_0⟩ := at_L1 HR2.out x10_2 p266 q266
                  cases e266
                  replace hx266_0 := (HB.out.cell (World.block_lt_of_cell? w _ hx266_0)).trans hx266_0
                  have HR266_0 := Aside0.mk hi266_0
                  have HC266_0 := Aside0.mk hl266_0
                  clear hi266_0 hl266_0
                  replace p266 := eq_true p266
                  replace q266 := eq_true q266
                  go_wp2
                  go_roundg k2
                  case measure => have := HJ5.out; have := HK2.out; omega
                  case rel => exact ⟨(wrap64 (x10_2 + 1)), (by first | rfl | (simp; done) | (simp [*]; done) | (simp; omega)), H', ⟨by have := HJ5.out; have := HK2.out; omega⟩, ⟨by repeat (first | (with_reducible first | exact HB.out | apply below_alloc | apply pw_below_drewN | apply below_drew1) | exact HB.out)⟩⟩
              · rw [if_neg c11] at H
                exact absurd H (by simp)
            · rw [if_neg c10] at H
              have c10b0 : decide (x10_2 < (l2.length : Int)) = false := decide_eq_false c10
              clear c10
              replace H := Option.bind_eq_some_iff.mp H
              obtain ⟨⟨t267, t270⟩, A130, H⟩ := H
              replace H : ((keepsakeref05_Cut.f k2 l0 a1).bind fun bt271 => ((image_Glue.f l2 a3).bind fun bt275 => ((keepsakeref05_Glue.f k2 l2 a3).bind fun bt279 => (if t265 = true then (if t270 = bt271.2 then ((keepsakeref05_Lists.f k2 t267 bt271.1).bind fun t283 => (if t283 = true then (if bt275.2 = bt279.2 then ((keepsakeref01_Same.f k2 bt275.1 bt279.1).bind fun t284 => (if t284 = true then ((image_Sectors.f a3 a1).bind fun t285 => ((keepsakeref05_Sectors.f k2 a3 a1).bind fun t286 => (some (t285 == t286)))) else (none))) else (none)) else (none))) else (none)) else (none))))) = some r := H
              have A13 := Aside0.mk A130
              clear A130
              replace H := Option.bind_eq_some_iff.mp H
              obtain ⟨⟨t271, t272⟩, A140, H⟩ := H
              replace H : ((image_Glue.f l2 a3).bind fun bt275 => ((keepsakeref05_Glue.f k2 l2 a3).bind fun bt279 => (if t265 = true then (if t270 = t272 then ((keepsakeref05_Lists.f k2 t267 t271).bind fun t283 => (if t283 = true then (if bt275.2 = bt279.2 then ((keepsakeref01_Same.f k2 bt275.1 bt279.1).bind fun t284 => (if t284 = true then ((image_Sectors.f a3 a1).bind fun t285 => ((keepsakeref05_Sectors.f k2 a3 a1).bind fun t286 => (some (t285 == t286)))) else (none))) else (none)) else (none))) else (none)) else (none)))) = some r := H
              have A14 := Aside0.mk A140
              clear A140
              replace H := Option.bind_eq_some_iff.mp H
              obtain ⟨⟨t275, t278⟩, A150, H⟩ := H
              replace H : ((keepsakeref05_Glue.f k2 l2 a3).bind fun bt279 => (if t265 = true then (if t270 = t272 then ((keepsakeref05_Lists.f k2 t267 t271).bind fun t283 => (if t283 = true then (if t278 = bt279.2 then ((keepsakeref01_Same.f k2 t275 bt279.1).bind fun t284 => (if t284 = true then ((image_Sectors.f a3 a1).bind fun t285 => ((keepsakeref05_Sectors.f k2 a3 a1).bind fun t286 => (some (t285 == t286)))) else (none))) else (none)) else (none))) else (none)) else (none))) = some r := H
              have A15 := Aside0.mk A150
              clear A150
              replace H := Option.bind_eq_some_iff.mp H
              obtain ⟨⟨t279, t280⟩, A160, H⟩ := H
              replace H : (if t265 = true then (if t270 = t272 then ((keepsakeref05_Lists.f k2 t267 t271).bind fun t283 => (if t283 = true then (if t278 = t280 then ((keepsakeref01_Same.f k2 t275 t279).bind fun t284 => (if t284 = true then ((image_Sectors.f a3 a1).bind fun t285 => ((keepsakeref05_Sectors.f k2 a3 a1).bind fun t286 => (some (t285 == t286)))) else (none))) else (none)) else (none))) else (none)) else (none)) = some r := H
              have A16 := Aside0.mk A160
              clear A160
              by_cases c17 : t265 = true
              · subst c17
                have H1 : (if t270 = t272 then ((keepsakeref05_Lists.f k2 t267 t271).bind fun t283 => (if t283 = true then (if t278 = t280 then ((keepsakeref01_Same.f k2 t275 t279).bind fun t284 => (if t284 = true then ((image_Sectors.f a3 a1).bind fun t285 => ((keepsakeref05_Sectors.f k2 a3 a1).bind fun t286 => (some (t285 == t286)))) else (none))) else (none)) else (none))) else (none)) = some r := by rw [if_pos rfl] at H; exact H
                clear H
                have H := H1
                clear H1
                by_cases c18 : t270 = t272
                · rw [if_pos c18] at H
                  have c18b0 : (t270 == t272) = true := beq_iff_eq.mpr c18
                  have c18b1 : (t270 != t272) = false := bne_eq_false_iff_eq.mpr c18
                  clear c18
                  replace H := Option.bind_eq_some_iff.mp H
                  obtain ⟨t283, A190, H⟩ := H
                  replace H : (if t283 = true then (if t278 = t280 then ((keepsakeref01_Same.f k2 t275 t279).bind fun t284 => (if t284 = true then ((image_Sectors.f a3 a1).bind fun t285 => ((keepsakeref05_Sectors.f k2 a3 a1).bind fun t286 => (some (t285 == t286)))) else (none))) else (none)) else (none)) = some r := H
                  have A19 := Aside0.mk A190
                  clear A190
                  by_cases c20 : t283 = true
                  · subst c20
                    have H1 : (if t278 = t280 then ((keepsakeref01_Same.f k2 t275 t279).bind fun t284 => (if t284 = true then ((image_Sectors.f a3 a1).bind fun t285 => ((keepsakeref05_Sectors.f k2 a3 a1).bind fun t286 => (some (t285 == t286)))) else (none))) else (none)) = some r := by rw [if_pos rfl] at H; exact H
                    clear H
                    have H := H1
                    clear H1
                    by_cases c21 : t278 = t280
                    · rw [if_pos c21] at H
                      have c21b0 : (t278 == t280) = true := beq_iff_eq.mpr c21
                      have c21b1 : (t278 != t280) = false := bne_eq_false_iff_eq.mpr c21
                      clear c21
                      replace H := Option.bind_eq_some_iff.mp H
                      obtain ⟨t284, A220, H⟩ := H
                      replace H : (if t284 = true then ((image_Sectors.f a3 a1).bind fun t285 => ((keepsakeref05_Sectors.f k2 a3 a1).bind fun t286 => (some (t285 == t286)))) else (none)) = some r := H
                      have A22 := Aside0.mk A220
                      clear A220
                      by_cases c23 : t284 = true
                      · subst c23
                        have H1 : ((image_Sectors.f a3 a1).bind fun t285 => ((keepsakeref05_Sectors.f k2 a3 a1).bind fun t286 => (some (t285 == t286)))) = some r := by rw [if_pos rfl] at H; exact H
                        clear H
                        have H := H1
                        clear H1
                        replace H := Option.bind_eq_some_iff.mp H
                        obtain ⟨t285, A240, H⟩ := H
                        replace H : ((keepsakeref05_Sectors.f k2 a3 a1).bind fun t286 => (some (t285 == t286))) = some r := H
                        have A24 := Aside0.mk A240
                        clear A240
                        replace H := Option.bind_eq_some_iff.mp H
                        obtain ⟨t286, A250, H⟩ := H
                        replace H : (some (t285 == t286)) = some r := H
                        have A25 := Aside0.mk A250
                        clear A250
                        obtain rfl := Option.some.inj H
                        go_wp2_with (first | ((with_reducible refine gate_callee (f := 14) rfl ?_); refine goesL_ (some 45) rfl rfl Tryd.func14 (by kernel_rfl) rfl #[.slice A0 l0.length c0, .int .i64 a1] rfl (by (try simp only [List.map_toArray, List.map_cons, List.map_nil]); first | done | rfl | (simp only [List.length_drop, List.length_take]; rfl)) ?_; (with_reducible refine (image_Cut.calls _ _ l0 a1 t267 t270 _ ?side1 ?side2 A13.out).mono ?_); (case side1 => repeat (first | exact (Kd.C_below HR0.out HB.out) | (with_reducible refine Kd.C_alloc ?_ _) | (with_reducible refine Kd.C_drewN ?_ _) | (with_reducible refine Kd.C_drew ?_))); (case side2 => exact HC0.out); rintro e w26 ⟨v268, rfl, ho0, hb⟩; refine ⟨_, rfl, ?_⟩; have n0_ := Aside0.mk (Kd.V_lower (Kd.V_mono (ok' := fun k_ => True) ho0 (fun k_ hk_ => trivial)) (below_size (by repeat (first | (with_reducible first | exact HB.out | apply below_alloc | apply pw_below_drewN | apply below_drew1) | exact HB.out)))); have n1_ := Aside0.mk (below_step (by repeat (first | (with_reducible first | exact HB.out | apply below_alloc | apply pw_below_drewN | apply below_drew1) | exact HB.out)) hb); clear HB; have HO269 := n0_; have HB := n1_; clear n0_ n1_; (try clear hb); (try clear hb2); (try clear hk); (try clear hi); (try clear ho0)) | ((with_reducible refine gate_callee (f := 18) rfl ?_); refine goesL_ (some 51) rfl rfl Tryd.func18 (by kernel_rfl) rfl #[.slice A0 l0.length c0, .int .i64 a1] rfl (by (try simp only [List.map_toArray, List.map_cons, List.map_nil]); first | done | rfl | (simp only [List.length_drop, List.length_take]; rfl)) ?_; (with_reducible refine (keepsakeref05_Cut.calls k2 _ _ l0 a1 t271 t272 _ ?side1 ?side2 A14.out).mono ?_); (case side1 => repeat (first | exact (Kd.C_below HR0.out HB.out) | (with_reducible refine Kd.C_alloc ?_ _) | (with_reducible refine Kd.C_drewN ?_ _) | (with_reducible refine Kd.C_drew ?_))); (case side2 => exact HC0.out); rintro e w27 ⟨v273, rfl, ho0, hb⟩; refine ⟨_, rfl, ?_⟩; have n0_ := Aside0.mk (Kd.V_elder' (by (with_reducible repeat (first | apply Kd.V_alloc | apply Kd.V_drewN | apply Kd.V_drew)); exact HO269.out) (Kd.S_base ho0) hb); have n1_ := Aside0.mk (Kd.S_lower ho0 (below_size (by repeat (first | (with_reducible first | exact HB.out | apply below_alloc | apply pw_below_drewN | apply below_drew1) | exact HB.out)))); have n2_ := Aside0.mk (below_step (by repeat (first | (with_reducible first | exact HB.out | apply below_alloc | apply pw_below_drewN | apply below_drew1) | exact HB.out)) hb); clear HO269; clear HB; have HO269 := n0_; have HO274 := n1_; have HB := n2_; clear n0_ n1_ n2_; (try clear hb); (try clear hb2); (try clear hk); (try clear hi); (try clear ho0)) | ((with_reducible refine gate_callee (f := 19) rfl ?_); refine goesL_ (some 57) rfl rfl Tryd.func19 (by kernel_rfl) rfl #[.slice A2 l2.length c2, .int .i64 a3] rfl (by (try simp only [List.map_toArray, List.map_cons, List.map_nil]); first | done | rfl | (simp only [List.length_drop, List.length_take]; rfl)) ?_; (with_reducible refine (image_Glue.calls _ _ l2 a3 t275 t278 _ ?side1 ?side2 A15.out).mono ?_); (case side1 => repeat (first | exact (Kd.C_below HR2.out HB.out) | (with_reducible refine Kd.C_alloc ?_ _) | (with_reducible refine Kd.C_drewN ?_ _) | (with_reducible refine Kd.C_drew ?_))); (case side2 => exact HC2.out); rintro e w28 ⟨v276, rfl, ho0, hb⟩; refine ⟨_, rfl, ?_⟩; have n0_ := Aside0.mk (Kd.V_below (by (with_reducible repeat (first | apply Kd.V_alloc | apply Kd.V_drewN | apply Kd.V_drew)); exact HO269.out) hb); have n1_ := Aside0.mk (Kd.S_below (by (with_reducible repeat (first | apply Kd.S_alloc | apply Kd.S_drewN | apply Kd.S_drew)); exact HO274.out) hb); have n2_ := Aside0.mk (Kd.V_lower (Kd.V_mono (ok' := fun k_ => some k_ ≠ (v273 : Value).ownBlock) ho0 (fun k_ hk_ => (Kd.fresh' (Kd.S_lt (by (with_reducible repeat (first | apply Kd.S_alloc | apply Kd.S_drewN | apply Kd.S_drew)); exact HO274.out)) k_ hk_))) (below_size (by repeat (first | (with_reducible first | exact HB.out | apply below_alloc | apply pw_below_drewN | apply below_drew1) | exact HB.out)))); have n3_ := Aside0.mk (below_step (by repeat (first | (with_reducible first | exact HB.out | apply below_alloc | apply pw_below_drewN | apply below_drew1) | exact HB.out)) hb); clear HO269; clear HO274; clear HB; have HO269 := n0_; have HO274 := n1_; have HO277 := n2_; have HB := n3_; clear n0_ n1_ n2_ n3_; (try clear hb); (try clear hb2); (try clear hk); (try clear hi); (try clear ho0)) | ((with_reducible refine gate_callee (f := 20) rfl ?_); refine goesL_ (some 63) rfl rfl Tryd.func20 (by kernel_rfl) rfl #[.slice A2 l2.length c2, .int .i64 a3] rfl (by (try simp only [List.map_toArray, List.map_cons, List.map_nil]); first | done | rfl | (simp only [List.length_drop, List.length_take]; rfl)) ?_; (with_reducible refine (keepsakeref05_Glue.calls k2 _ _ l2 a3 t279 t280 _ ?side1 ?side2 A16.out).mono ?_); (case side1 => repeat (first | exact (Kd.C_below HR2.out HB.out) | (with_reducible refine Kd.C_alloc ?_ _) | (with_reducible refine Kd.C_drewN ?_ _) | (with_reducible refine Kd.C_drew ?_))); (case side2 => exact HC2.out); rintro e w29 ⟨v281, rfl, ho0, hb⟩; refine ⟨_, rfl, ?_⟩; have n0_ := Aside0.mk (Kd.V_elder' (by (with_reducible repeat (first | apply Kd.V_alloc | apply Kd.V_drewN | apply Kd.V_drew)); exact HO269.out) (Kd.R_base ho0) hb); have n1_ := Aside0.mk (Kd.S_elder' (by (with_reducible repeat (first | apply Kd.S_alloc | apply Kd.S_drewN | apply Kd.S_drew)); exact HO274.out) (Kd.R_base ho0) hb); have n2_ := Aside0.mk (Kd.V_elder' (by (with_reducible repeat (first | apply Kd.V_alloc | apply Kd.V_drewN | apply Kd.V_drew)); exact HO277.out) (Kd.R_base ho0) hb); have n3_ := Aside0.mk (Kd.R_lower ho0 (below_size (by repeat (first | (with_reducible first | exact HB.out | apply below_alloc | apply pw_below_drewN | apply below_drew1) | exact HB.out)))); have n4_ := Aside0.mk (below_step (by repeat (first | (with_reducible first | exact HB.out | apply below_alloc | apply pw_below_drewN | apply below_drew1) | exact HB.out)) hb); clear HO269; clear HO274; clear HO277; clear HB; have HO269 := n0_; have HO274 := n1_; have HO277 := n2_; have HO282 := n3_; have HB := n4_; clear n0_ n1_ n2_ n3_ n4_; (try clear hb); (try clear hb2); (try clear hk); (try clear hi); (try clear ho0); obtain ⟨Ao30, co30, eo30⟩ := Kd.V_slice HO269.out; subst eo30; obtain ⟨Ao31, co31, eo31⟩ := Kd.S_slice HO274.out; subst eo31) | (go_at_call 21; (with_reducible refine (keepsakeref05_Lists.calls k2 _ _ t267 _ _ t271 true _ ?side1 ?side2 ?side3 ?side4 A19.out).mono ?_); (case side1 => repeat (first | exact (Kd.V_reads' HO269.out).2.2 | (with_reducible refine Kd.C_alloc ?_ _) | (with_reducible refine Kd.C_drewN ?_ _) | (with_reducible refine Kd.C_drew ?_))); (case side2 => exact (Kd.V_reads' HO269.out).2.1); (case side3 => repeat (first | exact (Kd.S_reads' HO274.out).2.2 | (with_reducible refine Kd.C_alloc ?_ _) | (with_reducible refine Kd.C_drewN ?_ _) | (with_reducible refine Kd.C_drew ?_))); (case side4 => exact (Kd.S_reads' HO274.out).2.1); rintro e w' ⟨rfl, ⟨nd, rfl⟩⟩; obtain ⟨Ao32, co32, eo32⟩ := Kd.V_slice HO277.out; subst eo32; obtain ⟨Ao33, co33, eo33⟩ := Kd.R_slice HO282.out; subst eo33) | (go_at_call 13; (with_reducible refine (keepsakeref01_Same.calls k2 _ _ t275 _ _ t279 true _ ?side1 ?side2 ?side3 ?side4 A22.out).mono ?_); (case side1 => repeat (first | exact (Kd.V_reads' HO277.out).2.2 | (with_reducible refine Kd.C_alloc ?_ _) | (with_reducible refine Kd.C_drewN ?_ _) | (with_reducible refine Kd.C_drew ?_))); (case side2 => exact (Kd.V_reads' HO277.out).2.1); (case side3 => repeat (first | exact (Kd.R_reads' HO282.out).2.2 | (with_reducible refine Kd.C_alloc ?_ _) | (with_reducible refine Kd.C_drewN ?_ _) | (with_reducible refine Kd.C_drew ?_))); (case side4 => exact (Kd.R_reads' HO282.out).2.1); rintro e w' ⟨rfl, ⟨nd, rfl⟩⟩) | (go_at_call 15; (with_reducible refine (image_Sectors.calls a3 a1 t285 _ A24.out).mono ?_); rintro e w' ⟨rfl, ⟨nd, rfl⟩⟩) | (go_at_call 22; (with_reducible refine (keepsakeref05_Sectors.calls k2 a3 a1 t286 _ A25.out).mono ?_); rintro e w' ⟨rfl, ⟨nd, rfl⟩⟩))
                        go_ret
                        exact ⟨by first | rfl | (simp [errW_none, errW_some] <;> rfl) | (simp [*, errW_none, errW_some] <;> rfl), by repeat (first | (with_reducible first | exact HB.out | apply below_alloc | apply pw_below_drewN | apply below_drew1) | exact HB.out)⟩
                      · replace c23 := Bool.eq_false_iff.mpr c23
                        subst c23
                        have H1 : (none) = some r := by rw [if_neg (show ¬ (false = true) by decide)] at H; exact H
                        clear H
                        have H := H1
                        clear H1
                        exact absurd H (by simp)
                    · rw [if_neg c21] at H
                      exact absurd H (by simp)
                  · replace c20 := Bool.eq_false_iff.mpr c20
                    subst c20
                    have H1 : (none) = some r := by rw [if_neg (show ¬ (false = true) by decide)] at H; exact H
                    clear H
                    have H := H1
                    clear H1
                    exact absurd H (by simp)
                · rw [if_neg c18] at H
                  exact absurd H (by simp)
              · replace c17 := Bool.eq_false_iff.mpr c17
                subst c17
                have H1 : (none) = some r := by rw [if_neg (show ¬ (false = true) by decide)] at H; exact H
                clear H
                have H := H1
                clear H1
                exact absurd H (by simp)

end Go.Proofs.YtmlldfkmmmncgaaDoor.All
