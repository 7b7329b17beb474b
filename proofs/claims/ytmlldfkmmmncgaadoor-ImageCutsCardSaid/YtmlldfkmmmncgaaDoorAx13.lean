-- written by a program of mine (xprint_patch.py over the kit's print)
import Derived.Test.YtmlldfkmmmncgaaDoorAx0
import Derived.Test.YtmlldfkmmmncgaaDoorAx2
import Derived.Test.YtmlldfkmmmncgaaDoorAx3
import Derived.Test.YtmlldfkmmmncgaaDoorGlue
import Derived.Test.YtmlldfkmmmncgaaDoorPieces
namespace Go.Proofs.YtmlldfkmmmncgaaDoor.Given
end Go.Proofs.YtmlldfkmmmncgaaDoor.Given
namespace Go.Proofs.YtmlldfkmmmncgaaDoor.All
open Go.Proofs.YtmlldfkmmmncgaaDoor.Given
open Go.RowKit Go.Proofs.YtmlldfkmmmncgaaDoorW.PrintWords Go.Proofs.YtmlldfkmmmncgaaDoorW.PrintLast Go.Proofs.YtmlldfkmmmncgaaDoorW.PrintMore
attribute [local go_sem] max2_int min2_int max_two min_two max_three min_three max_four min_four   -- for this text's walks alone
set_option linter.unusedVariables false
set_option linter.unusedSimpArgs false

/-! ### keepsakelaw05_ImageGlues: function 8 -/
mutual
def keepsakelaw05_ImageGlues.j0 : Nat → List Int → Bool → Int → List (List Int) → Bool → Option (Bool)
  | 0, _, _, _, _, _ => none
  | k + 1, x0, x5, x6, x7, x39 => if x39 = true then (none) else (keepsakelaw05_ImageGlues.l0 k x0 x5 x6 x7 0)
def keepsakelaw05_ImageGlues.l0 : Nat → List Int → Bool → Int → List (List Int) → Int → Option (Bool)
  | 0, _, _, _, _, _ => none
  | k + 1, x0, x5, x6, x7, x9 => if x9 < (x7.length : Int) then (if 0 ≤ x9 then (if ((rd_L1 x7 x9).length : Int) = x6 then (keepsakelaw05_ImageGlues.l0 k x0 x5 x6 x7 (wrap64 (x9 + 1))) else (none)) else (none)) else ((image_Glue.f x7 (x0.length : Int)).bind fun bt294 => ((image_Glue.f x7 (wrap64 ((wrap64 (x6 * (x7.length : Int))) + 1))).bind fun bt298 => (if x5 = true then (if bt294.2 = 0 then ((keepsakeref01_Same.f k x0 bt294.1).bind fun t302 => (if t302 = true then (if bt298.2 = 1 then (if (wrap64 (x6 * (x7.length : Int))) ≥ (x0.length : Int) then (some (decide ((wrap64 (x6 * (x7.length : Int))) < (wrap64 ((x0.length : Int) + x6))))) else (none)) else (none)) else (none))) else (none)) else (none))))
end
def keepsakelaw05_ImageGlues.f (k : Nat) (l0 : List Int) (a1 : Int) : Option (Bool) := (keepsakelaw05_awake.f k).bind fun t287 => (if (l0.length : Int) > 300 then (some t287) else ((image_Cut.f l0 (wrap64 (1 + (wrap64 (Int.tmod a1 100))))).bind fun bt288 => (if bt288.2 = 0 then ((image_Sectors.f (l0.length : Int) (wrap64 (1 + (wrap64 (Int.tmod a1 100))))).bind fun t292 => (keepsakelaw05_ImageGlues.j0 k l0 t287 (wrap64 (1 + (wrap64 (Int.tmod a1 100)))) bt288.1 ((bt288.1.length : Int) != t292))) else (keepsakelaw05_ImageGlues.j0 k l0 t287 (wrap64 (1 + (wrap64 (Int.tmod a1 100)))) bt288.1 true))))
theorem keepsakelaw05_ImageGlues.mono_l : ∀ k, (∀ y0 y1 y2 y3 y4, LeO (keepsakelaw05_ImageGlues.j0 k y0 y1 y2 y3 y4) (keepsakelaw05_ImageGlues.j0 (k + 1) y0 y1 y2 y3 y4)) ∧ (∀ y0 y1 y2 y3 y4, LeO (keepsakelaw05_ImageGlues.l0 k y0 y1 y2 y3 y4) (keepsakelaw05_ImageGlues.l0 (k + 1) y0 y1 y2 y3 y4))
  | 0 => ⟨fun _ _ _ _ _ r h => by simp [keepsakelaw05_ImageGlues.j0] at h, fun _ _ _ _ _ r h => by simp [keepsakelaw05_ImageGlues.l0] at h⟩
  | k + 1 => by
    obtain ⟨ih0, ih1⟩ := keepsakelaw05_ImageGlues.mono_l k
    refine ⟨?_, ?_⟩
    · intro y0 y1 y2 y3 y4
      unfold keepsakelaw05_ImageGlues.j0
      repeat' first
      | (with_reducible exact ih0 _ _ _ _ _)
      | (with_reducible exact ih1 _ _ _ _ _)
      | (with_reducible exact keepsakelaw05_awake.mono _)
      | (with_reducible exact keepsakeref01_Same.mono _ _ _)
      | (with_reducible exact LeO.refl _)
      | (with_reducible exact LeO.none _)
      | (with_reducible refine LeO.ite ?_ ?_)
      | (with_reducible refine LeO.bind ?_ (fun _ => ?_))
      | exact ih0 _ _ _ _ _
      | exact ih1 _ _ _ _ _
      | exact keepsakelaw05_awake.mono _
      | exact keepsakeref01_Same.mono _ _ _
      | exact LeO.none _
      | refine LeO.ite ?_ ?_
      | refine LeO.bind ?_ (fun _ => ?_)
    · intro y0 y1 y2 y3 y4
      unfold keepsakelaw05_ImageGlues.l0
      repeat' first
      | (with_reducible exact ih0 _ _ _ _ _)
      | (with_reducible exact ih1 _ _ _ _ _)
      | (with_reducible exact keepsakelaw05_awake.mono _)
      | (with_reducible exact keepsakeref01_Same.mono _ _ _)
      | (with_reducible exact LeO.refl _)
      | (with_reducible exact LeO.none _)
      | (with_reducible refine LeO.ite ?_ ?_)
      | (with_reducible refine LeO.bind ?_ (fun _ => ?_))
      | exact ih0 _ _ _ _ _
      | exact ih1 _ _ _ _ _
      | exact keepsakelaw05_awake.mono _
      | exact keepsakeref01_Same.mono _ _ _
      | exact LeO.none _
      | refine LeO.ite ?_ ?_
      | refine LeO.bind ?_ (fun _ => ?_)
theorem keepsakelaw05_ImageGlues.mono : ∀ a0 a1 k, LeO (keepsakelaw05_ImageGlues.f k a0 a1) (keepsakelaw05_ImageGlues.f (k + 1) a0 a1) := by
  intro a0 a1 k
  obtain ⟨ih0, ih1⟩ := keepsakelaw05_ImageGlues.mono_l k
  unfold keepsakelaw05_ImageGlues.f
  repeat' first
      | (with_reducible exact ih0 _ _ _ _ _)
      | (with_reducible exact ih1 _ _ _ _ _)
      | (with_reducible exact keepsakelaw05_awake.mono _)
      | (with_reducible exact keepsakeref01_Same.mono _ _ _)
      | (with_reducible exact LeO.refl _)
      | (with_reducible exact LeO.none _)
      | (with_reducible refine LeO.ite ?_ ?_)
      | (with_reducible refine LeO.bind ?_ (fun _ => ?_))
      | exact ih0 _ _ _ _ _
      | exact ih1 _ _ _ _ _
      | exact keepsakelaw05_awake.mono _
      | exact keepsakeref01_Same.mono _ _ _
      | exact LeO.none _
      | refine LeO.ite ?_ ?_
      | refine LeO.bind ?_ (fun _ => ?_)
set_option maxHeartbeats 8000000 in
set_option maxRecDepth 100000 in
theorem keepsakelaw05_ImageGlues.calls (k : Nat) (A0 : Option Addr) (c0 : Nat) (l0 : List Int) (a1 : Int) (r : Bool) (w : World) (hG : Laid w) (hr0 : Kd.C (Kd.int .u8) w A0 l0.length l0) (hc0 : l0.length ≤ c0) (h : keepsakelaw05_ImageGlues.f k l0 a1 = some r) :
    Calls Tryd.prog 8 #[.slice A0 l0.length c0, .int .u8 a1] w fun e w' => e = .returned (.bool r) ∧ Below w.heap.size w w' := by
  have HG := Aside0.mk hG
  clear hG
  have HR0 := Aside0.mk hr0
  have HC0 := Aside0.mk hc0
  clear hr0 hc0
  have HB := Aside0.mk (Below.refl w.heap.size w)
  have H : ((keepsakelaw05_awake.f k).bind fun t287 => (if (l0.length : Int) > 300 then (some t287) else ((image_Cut.f l0 (wrap64 (1 + (wrap64 (Int.tmod a1 100))))).bind fun bt288 => (if bt288.2 = 0 then ((image_Sectors.f (l0.length : Int) (wrap64 (1 + (wrap64 (Int.tmod a1 100))))).bind fun t292 => (keepsakelaw05_ImageGlues.j0 k l0 t287 (wrap64 (1 + (wrap64 (Int.tmod a1 100)))) bt288.1 ((bt288.1.length : Int) != t292))) else (keepsakelaw05_ImageGlues.j0 k l0 t287 (wrap64 (1 + (wrap64 (Int.tmod a1 100)))) bt288.1 true))))) = some r := h
  clear h
  replace H := Option.bind_eq_some_iff.mp H
  obtain ⟨t287, A30, H⟩ := H
  replace H : (if (l0.length : Int) > 300 then (some t287) else ((image_Cut.f l0 (wrap64 (1 + (wrap64 (Int.tmod a1 100))))).bind fun bt288 => (if bt288.2 = 0 then ((image_Sectors.f (l0.length : Int) (wrap64 (1 + (wrap64 (Int.tmod a1 100))))).bind fun t292 => (keepsakelaw05_ImageGlues.j0 k l0 t287 (wrap64 (1 + (wrap64 (Int.tmod a1 100)))) bt288.1 ((bt288.1.length : Int) != t292))) else (keepsakelaw05_ImageGlues.j0 k l0 t287 (wrap64 (1 + (wrap64 (Int.tmod a1 100)))) bt288.1 true)))) = some r := H
  have A3 := Aside0.mk A30
  clear A30
  by_cases c4 : (l0.length : Int) > 300
  · rw [if_pos c4] at H
    have c4b0 : decide (300 < (l0.length : Int)) = true := decide_eq_true c4
    have c4b1 : decide (300 < l0.length) = true := decide_eq_true (by omega)
    clear c4
    obtain rfl := Option.some.inj H
    go_enter Tryd.func8, Tryd.ntmps8
    go_wp2_with (first | ((with_reducible refine gate_callee (f := 10) rfl ?_); refine goesL_ (some 14) rfl rfl Tryd.func10 (by kernel_rfl) rfl #[] rfl (by (try simp only [List.map_toArray, List.map_cons, List.map_nil]); first | done | rfl | (simp only [List.length_drop, List.length_take]; rfl)) ?_; (with_reducible refine (keepsakelaw05_awake.calls k  t287 _ ?sideG A3.out).mono ?_); (case sideG => repeat (first | exact Laid.below HG.out HB.out | exact HG.out | (with_reducible refine Laid.alloc ?_ _) | (with_reducible refine Laid.drewN ?_ _) | (with_reducible refine Laid.drew ?_))); rintro e w5 ⟨rfl, hb⟩; refine ⟨_, rfl, ?_⟩; have n0_ := Aside0.mk (below_step (by repeat (first | (with_reducible first | exact HB.out | apply below_alloc | apply pw_below_drewN | apply below_drew1) | exact HB.out)) hb); clear HB; have HB := n0_; clear n0_; (try clear hb); (try clear hb2); (try clear hk); (try clear hi)))
    go_ret
    exact ⟨by first | rfl | (simp [errW_none, errW_some] <;> rfl) | (simp [*, errW_none, errW_some] <;> rfl), by repeat (first | (with_reducible first | exact HB.out | apply below_alloc | apply pw_below_drewN | apply below_drew1) | exact HB.out)⟩
  · rw [if_neg c4] at H
    have c4b0 : decide (300 < (l0.length : Int)) = false := decide_eq_false c4
    have c4b1 : decide (300 < l0.length) = false := decide_eq_false (by omega)
    clear c4
    replace H := Option.bind_eq_some_iff.mp H
    obtain ⟨⟨t288, t291⟩, A60, H⟩ := H
    replace H : (if t291 = 0 then ((image_Sectors.f (l0.length : Int) (wrap64 (1 + (wrap64 (Int.tmod a1 100))))).bind fun t292 => (keepsakelaw05_ImageGlues.j0 k l0 t287 (wrap64 (1 + (wrap64 (Int.tmod a1 100)))) t288 ((t288.length : Int) != t292))) else (keepsakelaw05_ImageGlues.j0 k l0 t287 (wrap64 (1 + (wrap64 (Int.tmod a1 100)))) t288 true)) = some r := H
    have A6 := Aside0.mk A60
    clear A60
    have HC7 := Aside0.mk H
    clear H
    go_enter Tryd.func8, Tryd.ntmps8
    go_upto_region 6 with (first | ((with_reducible refine gate_callee (f := 10) rfl ?_); refine goesL_ (some 14) rfl rfl Tryd.func10 (by kernel_rfl) rfl #[] rfl (by (try simp only [List.map_toArray, List.map_cons, List.map_nil]); first | done | rfl | (simp only [List.length_drop, List.length_take]; rfl)) ?_; (with_reducible refine (keepsakelaw05_awake.calls k  t287 _ ?sideG A3.out).mono ?_); (case sideG => repeat (first | exact Laid.below HG.out HB.out | exact HG.out | (with_reducible refine Laid.alloc ?_ _) | (with_reducible refine Laid.drewN ?_ _) | (with_reducible refine Laid.drew ?_))); rintro e w8 ⟨rfl, hb⟩; refine ⟨_, rfl, ?_⟩; have n0_ := Aside0.mk (below_step (by repeat (first | (with_reducible first | exact HB.out | apply below_alloc | apply pw_below_drewN | apply below_drew1) | exact HB.out)) hb); clear HB; have HB := n0_; clear n0_; (try clear hb); (try clear hb2); (try clear hk); (try clear hi)) | ((with_reducible refine gate_callee (f := 14) rfl ?_); refine goesL_ (some 26) rfl rfl Tryd.func14 (by kernel_rfl) rfl #[.slice A0 l0.length c0, .int .i64 (wrap64 (1 + (wrap64 (Int.tmod a1 100))))] rfl (by (try simp only [List.map_toArray, List.map_cons, List.map_nil]); first | done | rfl | (simp only [List.length_drop, List.length_take]; rfl)) ?_; (with_reducible refine (image_Cut.calls _ _ l0 (wrap64 (1 + (wrap64 (Int.tmod a1 100)))) t288 t291 _ ?side1 ?side2 A6.out).mono ?_); (case side1 => repeat (first | exact (Kd.C_below HR0.out HB.out) | (with_reducible refine Kd.C_alloc ?_ _) | (with_reducible refine Kd.C_drewN ?_ _) | (with_reducible refine Kd.C_drew ?_))); (case side2 => exact HC0.out); rintro e w9 ⟨v289, rfl, ho0, hb⟩; refine ⟨_, rfl, ?_⟩; have n0_ := Aside0.mk (Kd.V_lower (Kd.V_mono (ok' := fun k_ => True) ho0 (fun k_ hk_ => trivial)) (below_size (by repeat (first | (with_reducible first | exact HB.out | apply below_alloc | apply pw_below_drewN | apply below_drew1) | exact HB.out)))); have n1_ := Aside0.mk (below_step (by repeat (first | (with_reducible first | exact HB.out | apply below_alloc | apply pw_below_drewN | apply below_drew1) | exact HB.out)) hb); clear HB; have HO290 := n0_; have HB := n1_; clear n0_ n1_; (try clear hb); (try clear hb2); (try clear hk); (try clear hi); (try clear ho0)))
    (try simp only [Act.put, List.setIfInBounds_toArray, List.set_cons_zero, List.set_cons_succ])
    go_cut [39] (fun v39 wc => ∃ (kq : Nat) (x39_6 : Bool), v39 = .bool x39_6 ∧ Aside0 (keepsakelaw05_ImageGlues.j0 kq l0 t287 (wrap64 (1 + (wrap64 (Int.tmod a1 100)))) t288 x39_6 = some r) ∧ Aside0 (kq ≤ k) ∧ Aside0 (Kd.V (Kd.slice 5 (Kd.int .u8)) 25 wc w.heap.size (fun _ => True) v289 t288) ∧ Aside0 (Below w.heap.size w wc))
    case first =>
      have H := HC7.out
      clear HC7
      by_cases c10 : t291 = 0
      · rw [if_pos c10] at H
        have c10b0 : (t291 == 0) = true := beq_iff_eq.mpr c10
        have c10b1 : (t291 != 0) = false := bne_eq_false_iff_eq.mpr c10
        clear c10
        (first | rw [c10b0] | (simp only [i64_w, i32_w]; rw [c10b0]) | skip)
        replace H := Option.bind_eq_some_iff.mp H
        obtain ⟨t292, A110, H⟩ := H
        replace H : (keepsakelaw05_ImageGlues.j0 k l0 t287 (wrap64 (1 + (wrap64 (Int.tmod a1 100)))) t288 ((t288.length : Int) != t292)) = some r := H
        have A11 := Aside0.mk A110
        clear A110
        have H' := Aside0.mk H
        clear H
        obtain ⟨Ao12, co12, eo12⟩ := Kd.V_slice HO290.out
        subst eo12
        go_wp2_with (first | (go_at_call 15; (with_reducible refine (image_Sectors.calls (l0.length : Int) (wrap64 (1 + (wrap64 (Int.tmod a1 100)))) t292 _ A11.out).mono ?_); rintro e w' ⟨rfl, ⟨nd, rfl⟩⟩))
        go_meet
        case rel => exact ⟨_, (((t288.length : Int) != t292)), (by first | rfl | (simp; done) | (simp [*]; done) | (simp; omega)), H', ⟨by first | omega | exact Nat.le_refl _⟩, ⟨by (with_reducible repeat (first | apply Kd.V_alloc | apply Kd.V_drewN | apply Kd.V_drew)); exact HO290.out⟩, ⟨by repeat (first | (with_reducible first | exact HB.out | apply below_alloc | apply pw_below_drewN | apply below_drew1) | exact HB.out)⟩⟩
      · rw [if_neg c10] at H
        have c10b0 : (t291 == 0) = false := beq_eq_false_iff_ne.mpr c10
        have c10b1 : (t291 != 0) = true := bne_iff_ne.mpr c10
        (first | rw [c10b0] | (simp only [i64_w, i32_w]; rw [c10b0]) | skip)
        have H' := Aside0.mk H
        clear H
        go_wp2
        go_meet
        case rel => exact ⟨_, (true), (by first | rfl | (simp; done) | (simp [*]; done) | (simp; omega)), H', ⟨by first | omega | exact Nat.le_refl _⟩, ⟨by (with_reducible repeat (first | apply Kd.V_alloc | apply Kd.V_drewN | apply Kd.V_drew)); exact HO290.out⟩, ⟨by repeat (first | (with_reducible first | exact HB.out | apply below_alloc | apply pw_below_drewN | apply below_drew1) | exact HB.out)⟩⟩
    case rest =>
      clear HC7
      try clear c1
      try clear p2
      try clear c4
      try clear c4b0
      try clear c4b1
      try clear p6
      try clear c8
      try clear c10
      try clear c10b0
      try clear c10b1
      obtain ⟨kq, x39_6, rfl, HA, HJ6, HO_7, HB⟩ := hcut
      cases kq with
      | zero => exact absurd HA.out (by simp [keepsakelaw05_ImageGlues.j0])
      | succ kj6 =>
        have H := HA.out
        clear HA
        simp only [keepsakelaw05_ImageGlues.j0] at H
        by_cases c13 : x39_6 = true
        · subst c13
          have H1 : (none) = some r := by rw [if_pos rfl] at H; exact H
          clear H
          have H := H1
          clear H1
          exact absurd H (by simp)
        · replace c13 := Bool.eq_false_iff.mpr c13
          subst c13
          have H1 : (keepsakelaw05_ImageGlues.l0 kj6 l0 t287 (wrap64 (1 + (wrap64 (Int.tmod a1 100)))) t288 0) = some r := by rw [if_neg (show ¬ (false = true) by decide)] at H; exact H
          clear H
          have H := H1
          clear H1
          have H' := Aside0.mk H
          clear H
          go_wp2
          go_loopg [9] kj6 (fun kq v9 w' => ∃ (x9_2 : Int), v9 = .int .i64 x9_2 ∧ Aside0 (keepsakelaw05_ImageGlues.l0 kq l0 t287 (wrap64 (1 + (wrap64 (Int.tmod a1 100)))) t288 x9_2 = some r) ∧ Aside0 (kq ≤ kj6) ∧ Aside0 (Kd.V (Kd.slice 5 (Kd.int .u8)) 25 w' w.heap.size (fun _ => True) v289 t288) ∧ Aside0 (Below w.heap.size w w'))
          case atStart => exact ⟨(0), (by first | rfl | (simp; done) | (simp [*]; done) | (simp; omega)), H', ⟨Nat.le_refl _⟩, ⟨by (with_reducible repeat (first | apply Kd.V_alloc | apply Kd.V_drewN | apply Kd.V_drew)); exact HO_7.out⟩, ⟨by repeat (first | (with_reducible first | exact HB.out | apply below_alloc | apply pw_below_drewN | apply below_drew1) | exact HB.out)⟩⟩
          case round =>
            clear H'
            try clear c1
            try clear p2
            try clear c4
            try clear c4b0
            try clear c4b1
            try clear p6
            try clear c8
            try clear c10
            try clear c10b0
            try clear c10b1
            try clear c13
            try clear p2
            try clear p6
            obtain ⟨x9_2, rfl, HA, HK2, HO_7, HB⟩ := hrel
            cases gk with
            | zero => exact absurd HA.out (by simp [keepsakelaw05_ImageGlues.l0])
            | succ k2 =>
              have H := HA.out
              clear HA
              simp only [keepsakelaw05_ImageGlues.l0] at H
              by_cases c14 : x9_2 < (t288.length : Int)
              · rw [if_pos c14] at H
                have c14b0 : decide (x9_2 < (t288.length : Int)) = true := decide_eq_true c14
                clear c14
                by_cases c15 : 0 ≤ x9_2
                · rw [if_pos c15] at H
                  have c15b0 : decide (0 ≤ x9_2) = true := decide_eq_true c15
                  clear c15
                  by_cases c16 : ((rd_L1 t288 x9_2).length : Int) = (wrap64 (1 + (wrap64 (Int.tmod a1 100))))
                  · rw [if_pos c16] at H
                    have c16b0 : (((rd_L1 t288 x9_2).length : Int) == (wrap64 (1 + (wrap64 (Int.tmod a1 100))))) = true := beq_iff_eq.mpr c16
                    have c16b1 : (((rd_L1 t288 x9_2).length : Int) != (wrap64 (1 + (wrap64 (Int.tmod a1 100))))) = false := bne_eq_false_iff_eq.mpr c16
                    clear c16
                    have H' := Aside0.mk H
                    clear H
                    obtain ⟨Ao17, co17, eo17⟩ := Kd.V_slice HO_7.out
                    subst eo17
                    have p293 : 0 ≤ (x9_2 : Int) := of_decide_eq_true (by first | (with_reducible assumption) | assumption)
                    have q293 : x9_2 < (t288.length : Int) := of_decide_eq_true (by first | (with_reducible assumption) | assumption)
                    obtain ⟨ad293, A293_0, c293_0, e293, hx293_0, hl293_0, hi293_0⟩ := at_L1 (Kd.V_reads' HO_7.out).2.2 x9_2 p293 q293
                    cases e293
                    obtain ⟨ce293, hce293, hMe293, hcc293⟩ := Kd.V_get HO_7.out [] x9_2 p293 (by first | exact q293 | exact of_decide_eq_true (by first | (with_reducible assumption) | assumption) | (have e_ := (Kd.V_reads' HO_7.out).1; omega))
                    obtain ⟨ua293_0, uc293_0, rfl, ul293_0, ge293_0⟩ := Kd.FK_slice_open hMe293
                    have hv293_0 := hcc293 0 _ rfl
                    rw [Nat.add_zero, show ((Kd.slice 5 (Kd.int .u8))).sz = 1 from rfl, Nat.mul_one] at hv293_0
                    replace hv293_0 := Option.some.inj (hv293_0.symm.trans hx293_0)
                    injection hv293_0 with hva_ hvn_ hvc_
                    rw [hva_] at ge293_0
                    rw [hvc_] at ul293_0
                    have HL293_0 := Aside0.mk (show Kd.V (Kd.int .u8) 5 _ w.heap.size _ _ (rd_L1 t288 x9_2) from Kd.V_mk ul293_0 ge293_0)
                    clear hva_ hvn_ hvc_ ge293_0 ul293_0
                    clear hcc293 hce293
                    have HR293_0 := Aside0.mk hi293_0
                    have HC293_0 := Aside0.mk hl293_0
                    clear hi293_0 hl293_0
                    replace p293 := eq_true p293
                    replace q293 := eq_true q293
                    go_wp2
                    go_roundg k2
                    case measure => have := HJ6.out; have := HK2.out; omega
                    case rel => exact ⟨(wrap64 (x9_2 + 1)), (by first | rfl | (simp; done) | (simp [*]; done) | (simp; omega)), H', ⟨by have := HJ6.out; have := HK2.out; omega⟩, ⟨by (with_reducible repeat (first | apply Kd.V_alloc | apply Kd.V_drewN | apply Kd.V_drew)); exact HO_7.out⟩, ⟨by repeat (first | (with_reducible first | exact HB.out | apply below_alloc | apply pw_below_drewN | apply below_drew1) | exact HB.out)⟩⟩
                  · rw [if_neg c16] at H
                    exact absurd H (by simp)
                · rw [if_neg c15] at H
                  exact absurd H (by simp)
              · rw [if_neg c14] at H
                have c14b0 : decide (x9_2 < (t288.length : Int)) = false := decide_eq_false c14
                clear c14
                replace H := Option.bind_eq_some_iff.mp H
                obtain ⟨⟨t294, t297⟩, A180, H⟩ := H
                replace H : ((image_Glue.f t288 (wrap64 ((wrap64 ((wrap64 (1 + (wrap64 (Int.tmod a1 100)))) * (t288.length : Int))) + 1))).bind fun bt298 => (if t287 = true then (if t297 = 0 then ((keepsakeref01_Same.f k2 l0 t294).bind fun t302 => (if t302 = true then (if bt298.2 = 1 then (if (wrap64 ((wrap64 (1 + (wrap64 (Int.tmod a1 100)))) * (t288.length : Int))) ≥ (l0.length : Int) then (some (decide ((wrap64 ((wrap64 (1 + (wrap64 (Int.tmod a1 100)))) * (t288.length : Int))) < (wrap64 ((l0.length : Int) + (wrap64 (1 + (wrap64 (Int.tmod a1 100))))))))) else (none)) else (none)) else (none))) else (none)) else (none))) = some r := H
                have A18 := Aside0.mk A180
                clear A180
                replace H := Option.bind_eq_some_iff.mp H
                obtain ⟨⟨t298, t301⟩, A190, H⟩ := H
                replace H : (if t287 = true then (if t297 = 0 then ((keepsakeref01_Same.f k2 l0 t294).bind fun t302 => (if t302 = true then (if t301 = 1 then (if (wrap64 ((wrap64 (1 + (wrap64 (Int.tmod a1 100)))) * (t288.length : Int))) ≥ (l0.length : Int) then (some (decide ((wrap64 ((wrap64 (1 + (wrap64 (Int.tmod a1 100)))) * (t288.length : Int))) < (wrap64 ((l0.length : Int) + (wrap64 (1 + (wrap64 (Int.tmod a1 100))))))))) else (none)) else (none)) else (none))) else (none)) else (none)) = some r := H
                have A19 := Aside0.mk A190
                clear A190
                by_cases c20 : t287 = true
                · subst c20
                  have H1 : (if t297 = 0 then ((keepsakeref01_Same.f k2 l0 t294).bind fun t302 => (if t302 = true then (if t301 = 1 then (if (wrap64 ((wrap64 (1 + (wrap64 (Int.tmod a1 100)))) * (t288.length : Int))) ≥ (l0.length : Int) then (some (decide ((wrap64 ((wrap64 (1 + (wrap64 (Int.tmod a1 100)))) * (t288.length : Int))) < (wrap64 ((l0.length : Int) + (wrap64 (1 + (wrap64 (Int.tmod a1 100))))))))) else (none)) else (none)) else (none))) else (none)) = some r := by rw [if_pos rfl] at H; exact H
                  clear H
                  have H := H1
                  clear H1
                  by_cases c21 : t297 = 0
                  · rw [if_pos c21] at H
                    have c21b0 : (t297 == 0) = true := beq_iff_eq.mpr c21
                    have c21b1 : (t297 != 0) = false := bne_eq_false_iff_eq.mpr c21
                    clear c21
                    replace H := Option.bind_eq_some_iff.mp H
                    obtain ⟨t302, A220, H⟩ := H
                    replace H : (if t302 = true then (if t301 = 1 then (if (wrap64 ((wrap64 (1 + (wrap64 (Int.tmod a1 100)))) * (t288.length : Int))) ≥ (l0.length : Int) then (some (decide ((wrap64 ((wrap64 (1 + (wrap64 (Int.tmod a1 100)))) * (t288.length : Int))) < (wrap64 ((l0.length : Int) + (wrap64 (1 + (wrap64 (Int.tmod a1 100))))))))) else (none)) else (none)) else (none)) = some r := H
                    have A22 := Aside0.mk A220
                    clear A220
                    by_cases c23 : t302 = true
                    · subst c23
                      have H1 : (if t301 = 1 then (if (wrap64 ((wrap64 (1 + (wrap64 (Int.tmod a1 100)))) * (t288.length : Int))) ≥ (l0.length : Int) then (some (decide ((wrap64 ((wrap64 (1 + (wrap64 (Int.tmod a1 100)))) * (t288.length : Int))) < (wrap64 ((l0.length : Int) + (wrap64 (1 + (wrap64 (Int.tmod a1 100))))))))) else (none)) else (none)) = some r := by rw [if_pos rfl] at H; exact H
                      clear H
                      have H := H1
                      clear H1
                      by_cases c24 : t301 = 1
                      · rw [if_pos c24] at H
                        have c24b0 : (t301 == 1) = true := beq_iff_eq.mpr c24
                        have c24b1 : (t301 != 1) = false := bne_eq_false_iff_eq.mpr c24
                        clear c24
                        by_cases c25 : (wrap64 ((wrap64 (1 + (wrap64 (Int.tmod a1 100)))) * (t288.length : Int))) ≥ (l0.length : Int)
                        · rw [if_pos c25] at H
                          have c25b0 : decide ((l0.length : Int) ≤ (wrap64 ((wrap64 (1 + (wrap64 (Int.tmod a1 100)))) * (t288.length : Int)))) = true := decide_eq_true c25
                          clear c25
                          obtain rfl := Option.some.inj H
                          obtain ⟨Ao26, co26, eo26⟩ := Kd.V_slice HO_7.out
                          subst eo26
                          go_wp2_with (first | ((with_reducible refine gate_callee (f := 19) rfl ?_); refine goesL_ (some 57) rfl rfl Tryd.func19 (by kernel_rfl) rfl #[.slice Ao26 t288.length co26, .int .i64 (l0.length : Int)] rfl (by (try simp only [List.map_toArray, List.map_cons, List.map_nil]); first | done | rfl | (simp only [List.length_drop, List.length_take]; rfl)) ?_; (with_reducible refine (image_Glue.calls _ _ t288 (l0.length : Int) t294 t297 _ ?side1 ?side2 A18.out).mono ?_); (case side1 => repeat (first | exact (Kd.V_reads' HO_7.out).2.2 | (with_reducible refine Kd.C_alloc ?_ _) | (with_reducible refine Kd.C_drewN ?_ _) | (with_reducible refine Kd.C_drew ?_))); (case side2 => exact (Kd.V_reads' HO_7.out).2.1); rintro e w27 ⟨v295, rfl, ho0, hb⟩; refine ⟨_, rfl, ?_⟩; have n0_ := Aside0.mk (Kd.V_below (by (with_reducible repeat (first | apply Kd.V_alloc | apply Kd.V_drewN | apply Kd.V_drew)); exact HO_7.out) hb); have n1_ := Aside0.mk (Kd.V_lower (Kd.V_mono (ok' := fun k_ => True) ho0 (fun k_ hk_ => trivial)) (below_size (by repeat (first | (with_reducible first | exact HB.out | apply below_alloc | apply pw_below_drewN | apply below_drew1) | exact HB.out)))); have n2_ := Aside0.mk (below_step (by repeat (first | (with_reducible first | exact HB.out | apply below_alloc | apply pw_below_drewN | apply below_drew1) | exact HB.out)) hb); clear HO_7; clear HB; have HO_7 := n0_; have HO296 := n1_; have HB := n2_; clear n0_ n1_ n2_; (try clear hb); (try clear hb2); (try clear hk); (try clear hi); (try clear ho0)) | ((with_reducible refine gate_callee (f := 19) rfl ?_); refine goesL_ (some 67) rfl rfl Tryd.func19 (by kernel_rfl) rfl #[.slice Ao26 t288.length co26, .int .i64 (wrap64 ((wrap64 ((wrap64 (1 + (wrap64 (Int.tmod a1 100)))) * (t288.length : Int))) + 1))] rfl (by (try simp only [List.map_toArray, List.map_cons, List.map_nil]); first | done | rfl | (simp only [List.length_drop, List.length_take]; rfl)) ?_; (with_reducible refine (image_Glue.calls _ _ t288 (wrap64 ((wrap64 ((wrap64 (1 + (wrap64 (Int.tmod a1 100)))) * (t288.length : Int))) + 1)) t298 t301 _ ?side1 ?side2 A19.out).mono ?_); (case side1 => repeat (first | exact (Kd.V_reads' HO_7.out).2.2 | (with_reducible refine Kd.C_alloc ?_ _) | (with_reducible refine Kd.C_drewN ?_ _) | (with_reducible refine Kd.C_drew ?_))); (case side2 => exact (Kd.V_reads' HO_7.out).2.1); rintro e w28 ⟨v299, rfl, ho0, hb⟩; refine ⟨_, rfl, ?_⟩; have n0_ := Aside0.mk (Kd.V_below (by (with_reducible repeat (first | apply Kd.V_alloc | apply Kd.V_drewN | apply Kd.V_drew)); exact HO_7.out) hb); have n1_ := Aside0.mk (Kd.V_below (by (with_reducible repeat (first | apply Kd.V_alloc | apply Kd.V_drewN | apply Kd.V_drew)); exact HO296.out) hb); have n2_ := Aside0.mk (Kd.V_lower (Kd.V_mono (ok' := fun k_ => True) ho0 (fun k_ hk_ => trivial)) (below_size (by repeat (first | (with_reducible first | exact HB.out | apply below_alloc | apply pw_below_drewN | apply below_drew1) | exact HB.out)))); have n3_ := Aside0.mk (below_step (by repeat (first | (with_reducible first | exact HB.out | apply below_alloc | apply pw_below_drewN | apply below_drew1) | exact HB.out)) hb); clear HO_7; clear HO296; clear HB; have HO_7 := n0_; have HO296 := n1_; have HO300 := n2_; have HB := n3_; clear n0_ n1_ n2_ n3_; (try clear hb); (try clear hb2); (try clear hk); (try clear hi); (try clear ho0); obtain ⟨Ao29, co29, eo29⟩ := Kd.V_slice HO296.out; subst eo29) | (go_at_call 13; (with_reducible refine (keepsakeref01_Same.calls k2 _ _ l0 _ _ t294 true _ ?side1 ?side2 ?side3 ?side4 A22.out).mono ?_); (case side1 => repeat (first | exact (Kd.C_below HR0.out HB.out) | (with_reducible refine Kd.C_alloc ?_ _) | (with_reducible refine Kd.C_drewN ?_ _) | (with_reducible refine Kd.C_drew ?_))); (case side2 => exact HC0.out); (case side3 => repeat (first | exact (Kd.V_reads' HO296.out).2.2 | (with_reducible refine Kd.C_alloc ?_ _) | (with_reducible refine Kd.C_drewN ?_ _) | (with_reducible refine Kd.C_drew ?_))); (case side4 => exact (Kd.V_reads' HO296.out).2.1); rintro e w' ⟨rfl, ⟨nd, rfl⟩⟩))
                          go_ret
                          exact ⟨by first | rfl | (simp [errW_none, errW_some] <;> rfl) | (simp [*, errW_none, errW_some] <;> rfl), by repeat (first | (with_reducible first | exact HB.out | apply below_alloc | apply pw_below_drewN | apply below_drew1) | exact HB.out)⟩
                        · rw [if_neg c25] at H
                          exact absurd H (by simp)
                      · rw [if_neg c24] at H
                        exact absurd H (by simp)
                    · replace c23 := Bool.eq_false_iff.mpr c23
                      subst c23
                      have H1 : (none) = some r := by rw [if_neg (show ¬ (false = true) by decide)] at H; exact H
                      clear H
                      have H := H1
                      clear H1
                      exact absurd H (by simp)
                  · rw [if_neg c21] at H
                    exact absurd H (by simp)
                · replace c20 := Bool.eq_false_iff.mpr c20
                  subst c20
                  have H1 : (none) = some r := by rw [if_neg (show ¬ (false = true) by decide)] at H; exact H
                  clear H
                  have H := H1
                  clear H1
                  exact absurd H (by simp)

/-- THE ONE PURE STATEMENT of keepsakelaw05_ImageGlues: yours. -/
def keepsakelaw05_ImageGlues.Pure : Prop := ∀ (l0 : List Int) (a1 : Int), l0.length ≤ maxLen → l0.length * 1 ≤ 140737488351232 → (∀ x ∈ l0, (Lit.int .u8 x).wf = true) → (Lit.int .u8 a1).wf = true → ∃ k, keepsakelaw05_ImageGlues.f k l0 a1 = some true
theorem keepsakelaw05_ImageGlues.walk (P : keepsakelaw05_ImageGlues.Pure) (a0 : Option Addr) (len0 cap0 : Nat) (z0 : List Int) (a1 : Int) (w : World) (hG : Laid w) (w0 : (a0 = none ∧ len0 = 0 ∧ cap0 = 0 ∧ z0 = []) ∨ ∃ x, a0 = some x ∧ len0 ≤ cap0 ∧ cap0 ≤ maxLen ∧ z0.length = cap0 ∧ (∀ i, i < z0.length → w.cell? (x.add i) = some (.int .u8 (z0.getD i 0))) ∧ ∀ n ∈ z0, (Lit.int .u8 n).wf = true) (y0 : len0 * 1 ≤ 140737488351232) (w1 : (Lit.int .u8 a1).wf = true) :
    Calls Tryd.prog 8 #[.slice a0 len0 cap0, .int .u8 a1] w fun e w' => e = .returned (.bool true) ∧ Below w.heap.size w w' := by
  obtain ⟨l0, rfl, hr0, hm0, hw0, hc0⟩ := ReadsInt.ofRowC w0
  obtain ⟨k, h⟩ := P l0 a1 hm0 y0 hw0 w1
  refine (keepsakelaw05_ImageGlues.calls k _ _ l0 a1 true w hG (Kd.C_of_reads (d := (0 : Int)) (h1 := fun _ => rfl) hr0) hc0 h).mono ?_
  rintro e w' ⟨rfl, hd⟩
  exact ⟨rfl, hd⟩

end Go.Proofs.YtmlldfkmmmncgaaDoor.All
