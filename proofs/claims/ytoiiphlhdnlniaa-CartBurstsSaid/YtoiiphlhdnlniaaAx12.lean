-- written by a program of mine (xprint_patch.py over the kit's print)
import Derived.Test.YtoiiphlhdnlniaaAx0
import Derived.Test.YtoiiphlhdnlniaaAx3
import Derived.Test.YtoiiphlhdnlniaaAx6
import Derived.Test.YtoiiphlhdnlniaaAx10
import Derived.Test.YtoiiphlhdnlniaaMade
import Derived.Test.YtoiiphlhdnlniaaParsed
namespace Go.Proofs.Ytoiiphlhdnlniaa.Given
end Go.Proofs.Ytoiiphlhdnlniaa.Given
namespace Go.Proofs.Ytoiiphlhdnlniaa.All
open Go.Proofs.Ytoiiphlhdnlniaa.Given
open Go.RowKit Go.Proofs.YtoiiphlhdnlniaaW.PrintWords Go.Proofs.YtoiiphlhdnlniaaW.PrintLast Go.Proofs.YtoiiphlhdnlniaaW.PrintMore
attribute [local go_sem] max2_int min2_int max_two min_two max_three min_three max_four min_four   -- for this text's walks alone
set_option linter.unusedVariables false
set_option linter.unusedSimpArgs false

/-! ### keepsakelaw21_CartBursts: function 6 -/
mutual
def keepsakelaw21_CartBursts.j0 : Nat → Int → Int → Bool → List Int → Bool → Option (Bool)
 | 0, _, _, _, _, _ => none
 | k + 1, x1, x2, x7, x8, x34 => if x34 = true then (none) else ((some (([] : List Int) : List Int)).bind fun y392 => (if y392.length + x8.length < 140737488355328 then (keepsakelaw21_CartBursts.l0 k x2 x7 x8 (y392 ++ x8) (Int.tmod (wrap64 (x1)) 2048) 0) else (none)))
def keepsakelaw21_CartBursts.l0 : Nat → Int → Bool → List Int → List Int → Int → Int → Option (Bool)
 | 0, _, _, _, _, _, _ => none
 | k + 1, x2, x7, x8, x10, x11, x12 => if x12 < 32 then (keepsakelaw21_CartBursts.j2 k x2 x7 x8 x10 x11 x12 (decide ((wrap64 (x11 + x12)) < 2048))) else (keepsakelaw21_CartBursts.j2 k x2 x7 x8 x10 x11 x12 false)
def keepsakelaw21_CartBursts.j2 : Nat → Int → Bool → List Int → List Int → Int → Int → Bool → Option (Bool)
 | 0, _, _, _, _, _, _, _ => none
 | k + 1, x2, x7, x8, x10, x11, x12, x48 => if x48 = true then (if 0 ≤ x12 then (if (Go.bits .and .u32 (shr .u32 x2 x12) 1) = 1 then (if 0 ≤ (wrap64 (16 + (wrap64 (Int.tdiv (wrap64 (x11 + x12)) 8)))) then (if (wrap64 (16 + (wrap64 (Int.tdiv (wrap64 (x11 + x12)) 8)))) < (x10.length : Int) then (if 0 ≤ (Int.tmod (wrap64 (x11 + x12)) 8) then (keepsakelaw21_CartBursts.l0 k x2 x7 x8 (x10.set ((wrap64 (16 + (wrap64 (Int.tdiv (wrap64 (x11 + x12)) 8)))) : Int).toNat (Go.bits .xor .u8 (rd x10 (wrap64 (16 + (wrap64 (Int.tdiv (wrap64 (x11 + x12)) 8))))) (shl .u8 1 (Int.tmod (wrap64 (x11 + x12)) 8)))) x11 (wrap64 (x12 + 1))) else (none)) else (none)) else (none)) else (keepsakelaw21_CartBursts.l0 k x2 x7 x8 x10 x11 (wrap64 (x12 + 1)))) else (none)) else ((cart_Parse.f x10).bind fun bt400 => ((keepsakeref01_Same.f k x8 x10).bind fun t410 => (if x7 = true then (if ((bt400.2.2.2.2.2.2 == 0) == t410) = true then (some ((bt400.2.2.2.2.2.2 == 8) == (!t410))) else (none)) else (none))))
end
def keepsakelaw21_CartBursts.f (k : Nat) (l0 : List Int) (a1 : Int) (a2 : Int) : Option (Bool) := (keepsakelaw21_awake.f).bind fun t384 => (if (l0.length : Int) > 40 then (some t384) else ((keepsakeref10_Fill.f k l0 256).bind fun t385 => ((cart_Make.f 8 1 0 0 0 t385).bind fun bt388 => (if bt388.2 = 0 then (keepsakelaw21_CartBursts.j0 k a1 a2 t384 bt388.1 ((bt388.1.length : Int) != 272)) else (keepsakelaw21_CartBursts.j0 k a1 a2 t384 bt388.1 true)))))
theorem keepsakelaw21_CartBursts.mono_l : ∀ k, (∀ y0 y1 y2 y3 y4, LeO (keepsakelaw21_CartBursts.j0 k y0 y1 y2 y3 y4) (keepsakelaw21_CartBursts.j0 (k + 1) y0 y1 y2 y3 y4)) ∧ (∀ y0 y1 y2 y3 y4 y5, LeO (keepsakelaw21_CartBursts.l0 k y0 y1 y2 y3 y4 y5) (keepsakelaw21_CartBursts.l0 (k + 1) y0 y1 y2 y3 y4 y5)) ∧ (∀ y0 y1 y2 y3 y4 y5 y6, LeO (keepsakelaw21_CartBursts.j2 k y0 y1 y2 y3 y4 y5 y6) (keepsakelaw21_CartBursts.j2 (k + 1) y0 y1 y2 y3 y4 y5 y6))
 | 0 => ⟨fun _ _ _ _ _ r h => by simp [keepsakelaw21_CartBursts.j0] at h, fun _ _ _ _ _ _ r h => by simp [keepsakelaw21_CartBursts.l0] at h, fun _ _ _ _ _ _ _ r h => by simp [keepsakelaw21_CartBursts.j2] at h⟩
 | k + 1 => by
  obtain ⟨ih0, ih1, ih2⟩ := keepsakelaw21_CartBursts.mono_l k
  refine ⟨?_, ?_, ?_⟩
  · intro y0 y1 y2 y3 y4
    unfold keepsakelaw21_CartBursts.j0
    repeat' first
    | (with_reducible exact ih0 _ _ _ _ _)
    | (with_reducible exact ih1 _ _ _ _ _ _)
    | (with_reducible exact ih2 _ _ _ _ _ _ _)
    | (with_reducible exact keepsakeref01_Same.mono _ _ _)
    | (with_reducible exact keepsakeref10_Fill.mono _ _ _)
    | (with_reducible exact LeO.refl _)
    | (with_reducible exact LeO.none _)
    | (with_reducible refine LeO.ite ?_ ?_)
    | (with_reducible refine LeO.bind ?_ (fun _ => ?_))
    | exact ih0 _ _ _ _ _
    | exact ih1 _ _ _ _ _ _
    | exact ih2 _ _ _ _ _ _ _
    | exact keepsakeref01_Same.mono _ _ _
    | exact keepsakeref10_Fill.mono _ _ _
    | exact LeO.none _
    | refine LeO.ite ?_ ?_
    | refine LeO.bind ?_ (fun _ => ?_)
  · intro y0 y1 y2 y3 y4 y5
    unfold keepsakelaw21_CartBursts.l0
    repeat' first
    | (with_reducible exact ih0 _ _ _ _ _)
    | (with_reducible exact ih1 _ _ _ _ _ _)
    | (with_reducible exact ih2 _ _ _ _ _ _ _)
    | (with_reducible exact keepsakeref01_Same.mono _ _ _)
    | (with_reducible exact keepsakeref10_Fill.mono _ _ _)
    | (with_reducible exact LeO.refl _)
    | (with_reducible exact LeO.none _)
    | (with_reducible refine LeO.ite ?_ ?_)
    | (with_reducible refine LeO.bind ?_ (fun _ => ?_))
    | exact ih0 _ _ _ _ _
    | exact ih1 _ _ _ _ _ _
    | exact ih2 _ _ _ _ _ _ _
    | exact keepsakeref01_Same.mono _ _ _
    | exact keepsakeref10_Fill.mono _ _ _
    | exact LeO.none _
    | refine LeO.ite ?_ ?_
    | refine LeO.bind ?_ (fun _ => ?_)
  · intro y0 y1 y2 y3 y4 y5 y6
    unfold keepsakelaw21_CartBursts.j2
    repeat' first
    | (with_reducible exact ih0 _ _ _ _ _)
    | (with_reducible exact ih1 _ _ _ _ _ _)
    | (with_reducible exact ih2 _ _ _ _ _ _ _)
    | (with_reducible exact keepsakeref01_Same.mono _ _ _)
    | (with_reducible exact keepsakeref10_Fill.mono _ _ _)
    | (with_reducible exact LeO.refl _)
    | (with_reducible exact LeO.none _)
    | (with_reducible refine LeO.ite ?_ ?_)
    | (with_reducible refine LeO.bind ?_ (fun _ => ?_))
    | exact ih0 _ _ _ _ _
    | exact ih1 _ _ _ _ _ _
    | exact ih2 _ _ _ _ _ _ _
    | exact keepsakeref01_Same.mono _ _ _
    | exact keepsakeref10_Fill.mono _ _ _
    | exact LeO.none _
    | refine LeO.ite ?_ ?_
    | refine LeO.bind ?_ (fun _ => ?_)
theorem keepsakelaw21_CartBursts.mono : ∀ a0 a1 a2 k, LeO (keepsakelaw21_CartBursts.f k a0 a1 a2) (keepsakelaw21_CartBursts.f (k + 1) a0 a1 a2) := by
 intro a0 a1 a2 k
 obtain ⟨ih0, ih1, ih2⟩ := keepsakelaw21_CartBursts.mono_l k
 unfold keepsakelaw21_CartBursts.f
 repeat' first
  | (with_reducible exact ih0 _ _ _ _ _)
  | (with_reducible exact ih1 _ _ _ _ _ _)
  | (with_reducible exact ih2 _ _ _ _ _ _ _)
  | (with_reducible exact keepsakeref01_Same.mono _ _ _)
  | (with_reducible exact keepsakeref10_Fill.mono _ _ _)
  | (with_reducible exact LeO.refl _)
  | (with_reducible exact LeO.none _)
  | (with_reducible refine LeO.ite ?_ ?_)
  | (with_reducible refine LeO.bind ?_ (fun _ => ?_))
  | exact ih0 _ _ _ _ _
  | exact ih1 _ _ _ _ _ _
  | exact ih2 _ _ _ _ _ _ _
  | exact keepsakeref01_Same.mono _ _ _
  | exact keepsakeref10_Fill.mono _ _ _
  | exact LeO.none _
  | refine LeO.ite ?_ ?_
  | refine LeO.bind ?_ (fun _ => ?_)
def keepsakelaw21_CartBursts.T13 : Bool × List (List Nat × List Nat) := (true, [([], []), ([], []), ([], []), ([1, 2], [1, 2]), ([3], [3]), ([4], [4]), ([], []), ([], []), ([], []), ([7, 8], [7, 8]), ([9], [9]), ([10], [10]), ([6, 11], [6, 11]), ([12], [12]), ([], []), ([], []), ([14, 15], [14, 15]), ([16], [16]), ([17], [17]), ([13, 18], [13, 18]), ([0, 5, 0, 1, 2, 3, 4, 5, 6, 7, 8, 9, 10, 11, 12, 13, 14, 15, 16, 17, 18, 19], [0, 5]), ([20, 19, 0, 1, 2, 3, 4, 5, 6, 7, 8, 9, 10, 11, 12, 13, 14, 15, 16, 17, 18, 19], [19, 20])])
def keepsakelaw21_CartBursts.B13 : List Nat := [0, 0, 0, 6, 14, 30, 0, 0, 0, 384, 896, 1920, 4032, 8128, 0, 0, 49152, 114688, 245760, 524224, 1048575, 2097151]
theorem keepsakelaw21_CartBursts.tab13 : rtab .any (opsOf Try.f6 13) = keepsakelaw21_CartBursts.T13 := by kernel_rfl
theorem keepsakelaw21_CartBursts.bits13 : waitsOk keepsakelaw21_CartBursts.T13.2 keepsakelaw21_CartBursts.B13 = true := by kernel_rfl
set_option maxHeartbeats 8000000 in
set_option maxRecDepth 100000 in
theorem keepsakelaw21_CartBursts.calls (k : Nat) (A0 : Option Addr) (c0 : Nat) (l0 : List Int) (a1 : Int) (a2 : Int) (r : Bool) (w : World) (hr0 : Kd.C (Kd.int .u8) w A0 l0.length l0) (hc0 : l0.length ≤ c0) (h : keepsakelaw21_CartBursts.f k l0 a1 a2 = some r) :
 Calls Try.prog 6 #[.slice A0 l0.length c0, .int .u16 a1, .int .u32 a2] w fun e w' => e = .returned (.bool r) ∧ Below w.heap.size w w' := by
 have hu27 := Try.underlying27
 have HR0 := Aside0.mk hr0
 have HC0 := Aside0.mk hc0
 clear hr0 hc0
 have HB := Aside0.mk (Below.refl w.heap.size w)
 have H : ((keepsakelaw21_awake.f).bind fun t384 => (if (l0.length : Int) > 40 then (some t384) else ((keepsakeref10_Fill.f k l0 256).bind fun t385 => ((cart_Make.f 8 1 0 0 0 t385).bind fun bt388 => (if bt388.2 = 0 then (keepsakelaw21_CartBursts.j0 k a1 a2 t384 bt388.1 ((bt388.1.length : Int) != 272)) else (keepsakelaw21_CartBursts.j0 k a1 a2 t384 bt388.1 true)))))) = some r := h
 clear h
 replace H := Option.bind_eq_some_iff.mp H
 obtain ⟨t384, A40, H⟩ := H
 replace H : (if (l0.length : Int) > 40 then (some t384) else ((keepsakeref10_Fill.f k l0 256).bind fun t385 => ((cart_Make.f 8 1 0 0 0 t385).bind fun bt388 => (if bt388.2 = 0 then (keepsakelaw21_CartBursts.j0 k a1 a2 t384 bt388.1 ((bt388.1.length : Int) != 272)) else (keepsakelaw21_CartBursts.j0 k a1 a2 t384 bt388.1 true))))) = some r := H
 have A4 := Aside0.mk A40
 clear A40
 by_cases c5 : (l0.length : Int) > 40
 · rw [if_pos c5] at H
   have c5b0 : decide (40 < (l0.length : Int)) = true := decide_eq_true c5
   have c5b1 : decide (40 < l0.length) = true := decide_eq_true (by omega)
   clear c5
   obtain rfl := Option.some.inj H
   go_enter Try.func6, Try.ntmps6
   go_wp2_with (first | ((with_reducible refine gate_callee (f := 8) rfl ?_); refine goesL_ (some 16) rfl rfl Try.func8 (by kernel_rfl) rfl #[] rfl (by (try simp only [List.map_toArray, List.map_cons, List.map_nil]); first | done | rfl | (simp only [List.length_drop, List.length_take]; rfl)) ?_; (with_reducible refine (keepsakelaw21_awake.calls  t384 _ A4.out).mono ?_); rintro e w6 ⟨rfl, hb⟩; refine ⟨_, rfl, ?_⟩; have n0_ := Aside0.mk (below_step (by repeat (first | (with_reducible first | exact HB.out | apply below_alloc | apply pw_below_drewN | apply below_drew1) | exact HB.out)) hb); clear HB; have HB := n0_; clear n0_; (try clear hb); (try clear hb2); (try clear hk); (try clear hi)))
   go_ret
   exact ⟨by first | rfl | (simp [errW_none, errW_some] <;> rfl) | (simp [*, errW_none, errW_some] <;> rfl), by repeat (first | (with_reducible first | exact HB.out | apply below_alloc | apply pw_below_drewN | apply below_drew1) | exact HB.out)⟩
 · rw [if_neg c5] at H
   have c5b0 : decide (40 < (l0.length : Int)) = false := decide_eq_false c5
   have c5b1 : decide (40 < l0.length) = false := decide_eq_false (by omega)
   clear c5
   replace H := Option.bind_eq_some_iff.mp H
   obtain ⟨t385, A70, H⟩ := H
   replace H : ((cart_Make.f 8 1 0 0 0 t385).bind fun bt388 => (if bt388.2 = 0 then (keepsakelaw21_CartBursts.j0 k a1 a2 t384 bt388.1 ((bt388.1.length : Int) != 272)) else (keepsakelaw21_CartBursts.j0 k a1 a2 t384 bt388.1 true))) = some r := H
   have A7 := Aside0.mk A70
   clear A70
   replace H := Option.bind_eq_some_iff.mp H
   obtain ⟨⟨t388, t391⟩, A80, H⟩ := H
   replace H : (if t391 = 0 then (keepsakelaw21_CartBursts.j0 k a1 a2 t384 t388 ((t388.length : Int) != 272)) else (keepsakelaw21_CartBursts.j0 k a1 a2 t384 t388 true)) = some r := H
   have A8 := Aside0.mk A80
   clear A80
   have HC9 := Aside0.mk H
   clear H
   go_enter Try.func6, Try.ntmps6
   go_upto_region 5 with (first | ((with_reducible refine gate_callee (f := 8) rfl ?_); refine goesL_ (some 16) rfl rfl Try.func8 (by kernel_rfl) rfl #[] rfl (by (try simp only [List.map_toArray, List.map_cons, List.map_nil]); first | done | rfl | (simp only [List.length_drop, List.length_take]; rfl)) ?_; (with_reducible refine (keepsakelaw21_awake.calls  t384 _ A4.out).mono ?_); rintro e w10 ⟨rfl, hb⟩; refine ⟨_, rfl, ?_⟩; have n0_ := Aside0.mk (below_step (by repeat (first | (with_reducible first | exact HB.out | apply below_alloc | apply pw_below_drewN | apply below_drew1) | exact HB.out)) hb); clear HB; have HB := n0_; clear n0_; (try clear hb); (try clear hb2); (try clear hk); (try clear hi)) | ((with_reducible refine gate_callee (f := 18) rfl ?_); refine goesL_ (some 23) rfl rfl Try.func18 (by kernel_rfl) rfl #[.slice A0 l0.length c0, .int .i64 256] rfl (by (try simp only [List.map_toArray, List.map_cons, List.map_nil]); first | done | rfl | (simp only [List.length_drop, List.length_take]; rfl)) ?_; (with_reducible refine (keepsakeref10_Fill.calls k _ _ l0 256 t385 _ ?side1 ?side2 A7.out).mono ?_); (case side1 => repeat (first | exact (Kd.C_below HR0.out HB.out) | (with_reducible refine Kd.C_alloc ?_ _) | (with_reducible refine Kd.C_drewN ?_ _) | (with_reducible refine Kd.C_drew ?_))); (case side2 => exact HC0.out); rintro e w11 ⟨v386, rfl, ho0, hb⟩; refine ⟨_, rfl, ?_⟩; have n0_ := Aside0.mk (Kd.R_lower ho0 (below_size (by repeat (first | (with_reducible first | exact HB.out | apply below_alloc | apply pw_below_drewN | apply below_drew1) | exact HB.out)))); have n1_ := Aside0.mk (below_step (by repeat (first | (with_reducible first | exact HB.out | apply below_alloc | apply pw_below_drewN | apply below_drew1) | exact HB.out)) hb); clear HB; have HO387 := n0_; have HB := n1_; clear n0_ n1_; (try clear hb); (try clear hb2); (try clear hk); (try clear hi); (try clear ho0); obtain ⟨Ao12, co12, eo12⟩ := Kd.R_slice HO387.out; subst eo12) | ((with_reducible refine gate_callee (f := 15) rfl ?_); refine goesL_ (some 25) rfl rfl Try.func15 (by kernel_rfl) rfl #[.agg #[.int .i64 8, .int .i64 1, .int .i64 0, .int .i64 0, .int .i64 0, .slice Ao12 t385.length co12]] rfl (by (try simp only [List.map_toArray, List.map_cons, List.map_nil]); first | done | rfl | (simp only [List.length_drop, List.length_take]; rfl)) ?_; (with_reducible refine (cart_Make.calls 8 1 0 0 0 _ _ t385 t388 t391 _ ?side1 ?side2 A8.out).mono ?_); (case side1 => repeat (first | exact (Kd.R_reads' HO387.out).2.2 | (with_reducible refine Kd.C_alloc ?_ _) | (with_reducible refine Kd.C_drewN ?_ _) | (with_reducible refine Kd.C_drew ?_))); (case side2 => exact (Kd.R_reads' HO387.out).2.1); rintro e w13 ⟨v389, rfl, ho0, hb⟩; refine ⟨_, rfl, ?_⟩; have n0_ := Aside0.mk (Kd.R_elder' (by (with_reducible repeat (first | apply Kd.R_alloc | apply Kd.R_drewN | apply Kd.R_drew)); exact HO387.out) (Kd.R_base ho0) hb); have n1_ := Aside0.mk (Kd.R_lower (Kd.R_new' ho0 (Kd.R_lt (by (with_reducible repeat (first | apply Kd.R_alloc | apply Kd.R_drewN | apply Kd.R_drew)); exact HO387.out))) (below_size (by repeat (first | (with_reducible first | exact HB.out | apply below_alloc | apply pw_below_drewN | apply below_drew1) | exact HB.out)))); have n2_ := Aside0.mk (below_step (by repeat (first | (with_reducible first | exact HB.out | apply below_alloc | apply pw_below_drewN | apply below_drew1) | exact HB.out)) hb); clear HO387; clear HB; have HO387 := n0_; have HO390 := n1_; have HB := n2_; clear n0_ n1_ n2_; (try clear hb); (try clear hb2); (try clear hk); (try clear hi); (try clear ho0)))
   (try simp only [Act.put, List.setIfInBounds_toArray, List.set_cons_zero, List.set_cons_succ])
   go_cut [34] (fun v34 wc => ∃ (kq : Nat) (x34_8 : Bool), v34 = .bool x34_8 ∧ Aside0 (keepsakelaw21_CartBursts.j0 kq a1 a2 t384 t388 x34_8 = some r) ∧ Aside0 (kq ≤ k) ∧ Aside0 (Kd.R (Kd.int .u8) 5 wc w.heap.size (fun _ => True) v389 t388) ∧ Aside0 (Below w.heap.size w wc))
   case first =>
    have H := HC9.out
    clear HC9
    by_cases c14 : t391 = 0
    · rw [if_pos c14] at H
      have c14b0 : (t391 == 0) = true := beq_iff_eq.mpr c14
      have c14b1 : (t391 != 0) = false := bne_eq_false_iff_eq.mpr c14
      clear c14
      (first | rw [c14b0] | (simp only [i64_w, i32_w]; rw [c14b0]) | skip)
      have H' := Aside0.mk H
      clear H
      obtain ⟨Ao15, co15, eo15⟩ := Kd.R_slice HO390.out
      subst eo15
      go_wp2
      go_meet
      case rel => exact ⟨_, (((t388.length : Int) != 272)), (by first | rfl | (simp; done) | (simp [*]; done) | (simp; omega)), H', ⟨by first | omega | exact Nat.le_refl _⟩, ⟨by (with_reducible repeat (first | apply Kd.R_alloc | apply Kd.R_drewN | apply Kd.R_drew)); exact Kd.R_mono HO390.out (fun _ hk => trivial)⟩, ⟨by repeat (first | (with_reducible first | exact HB.out | apply below_alloc | apply pw_below_drewN | apply below_drew1) | exact HB.out)⟩⟩
    · rw [if_neg c14] at H
      have c14b0 : (t391 == 0) = false := beq_eq_false_iff_ne.mpr c14
      have c14b1 : (t391 != 0) = true := bne_iff_ne.mpr c14
      (first | rw [c14b0] | (simp only [i64_w, i32_w]; rw [c14b0]) | skip)
      have H' := Aside0.mk H
      clear H
      go_wp2
      go_meet
      case rel => exact ⟨_, (true), (by first | rfl | (simp; done) | (simp [*]; done) | (simp; omega)), H', ⟨by first | omega | exact Nat.le_refl _⟩, ⟨by (with_reducible repeat (first | apply Kd.R_alloc | apply Kd.R_drewN | apply Kd.R_drew)); exact Kd.R_mono HO390.out (fun _ hk => trivial)⟩, ⟨by repeat (first | (with_reducible first | exact HB.out | apply below_alloc | apply pw_below_drewN | apply below_drew1) | exact HB.out)⟩⟩
   case rest =>
    clear HC9
    try clear c1
    try clear p2
    try clear c5
    try clear c5b0
    try clear c5b1
    try clear c6
    try clear c8
    try clear c14
    try clear c14b0
    try clear c14b1
    try clear c15
    obtain ⟨kq, x34_8, rfl, HA, HJ8, HO_8, HB⟩ := hcut
    cases kq with
    | zero => exact absurd HA.out (by simp [keepsakelaw21_CartBursts.j0])
    | succ kj8 =>
     have H := HA.out
     clear HA
     simp only [keepsakelaw21_CartBursts.j0] at H
     by_cases c16 : x34_8 = true
     · subst c16
       have H1 : (none) = some r := by rw [if_pos rfl] at H; exact H
       clear H
       have H := H1
       clear H1
       exact absurd H (by simp)
     · replace c16 := Bool.eq_false_iff.mpr c16
       subst c16
       have H1 : ((some (([] : List Int) : List Int)).bind fun y392 => (if y392.length + t388.length < 140737488355328 then (keepsakelaw21_CartBursts.l0 kj8 a2 t384 t388 (y392 ++ t388) (Int.tmod (wrap64 (a1)) 2048) 0) else (none))) = some r := by rw [if_neg (show ¬ (false = true) by decide)] at H; exact H
       clear H
       have H := H1
       clear H1
       obtain ⟨y392, hy392⟩ : ∃ y_ : List Int, y_ = (([] : List Int)) := ⟨_, rfl⟩
       replace H : (if y392.length + t388.length < 140737488355328 then (keepsakelaw21_CartBursts.l0 kj8 a2 t384 t388 (y392 ++ t388) (Int.tmod (wrap64 (a1)) 2048) 0) else (none)) = some r := by first | (rw [hy392]; with_reducible exact H) | (have H2_ := (Option.bind_some _ _).symm.trans H; rw [hy392]; with_reducible exact H2_) | (have H2_ := (Option.bind_some _ _).symm.trans H; with_reducible exact H2_) | with_reducible exact H | (rw [hy392]; exact H) | exact H
       have Ny392 := Aside0.mk hy392
       clear hy392
       by_cases c17 : y392.length + t388.length < 140737488355328
       · rw [if_pos c17] at H
         have LMc17 := Aside0.mk c17
         clear c17
         obtain ⟨y395, hy395⟩ : ∃ y_ : List Int, y_ = (y392 ++ t388) := ⟨_, rfl⟩
         replace H : (keepsakelaw21_CartBursts.l0 kj8 a2 t384 t388 y395 (Int.tmod (wrap64 (a1)) 2048) 0) = some r := by first | (rw [hy395]; with_reducible exact H) | (have H2_ := (Option.bind_some _ _).symm.trans H; rw [hy395]; with_reducible exact H2_) | (have H2_ := (Option.bind_some _ _).symm.trans H; with_reducible exact H2_) | with_reducible exact H | (rw [hy395]; exact H) | exact H
         have Ny395 := Aside0.mk hy395
         clear hy395
         have H' := Aside0.mk H
         clear H
         go_wp2_with (first | ((with_reducible refine gate_dst (N := 35) rfl ?_); (try (refine gate_guard (by rfl) ?_; dsimp only)); refine Kd.R_lit (Kd.int .u8) _ 5 ?hg (N := 35) ?hd (xs := ([] : List Int)) (inner := []) (ok := fun _ => True) (okp := fun _ => True) ?hr ?hp (fun _ hk => hk) trivial (Below.refl _ _) (Nat.le_refl _) (by simp) ?_; (case hd => rfl); (case hg => rfl); (case hr => first | (go_simp; done) | (go_simp; rfl)); (case hp => exact (Reps.none _ _)); intro v393 w18 ho19 hb hg_ hnew_; clear hg_ hnew_; (first | rw [← Ny392.out] at ho19 | (simp only [Int.reduceToNat] at ho19; rw [← Ny392.out] at ho19)); have n0_ := Aside0.mk (Kd.R_elder' (by (with_reducible repeat (first | apply Kd.R_alloc | apply Kd.R_drewN | apply Kd.R_drew)); exact HO_8.out) (Kd.R_base ho19) hb); have n1_ := Aside0.mk (Kd.R_lower (Kd.R_new' ho19 (Kd.R_lt (by (with_reducible repeat (first | apply Kd.R_alloc | apply Kd.R_drewN | apply Kd.R_drew)); exact HO_8.out))) (below_size (by repeat (first | (with_reducible first | exact HB.out | apply below_alloc | apply pw_below_drewN | apply below_drew1) | exact HB.out)))); have n2_ := Aside0.mk (below_step (by repeat (first | (with_reducible first | exact HB.out | apply below_alloc | apply pw_below_drewN | apply below_drew1) | exact HB.out)) hb); clear HO_8; clear HB; have HO_8 := n0_; have HO394 := n1_; have HB := n2_; clear n0_ n1_ n2_; clear hb ho19; obtain ⟨Ao21, co21, eo21⟩ := Kd.R_slice HO_8.out; subst eo21) | ((with_reducible refine gate_builtin (b := .append) (xs := #[.tmp 35, .tmp 36]) rfl ?_); (try (refine gate_guard (by rfl) ?_; dsimp only)); at_builtin; refine Kd.R_append_rows (Kd.int .u8) (w0 := w) w.heap.size rfl (.tmp 35) (.tmp 36) 22 5 (.int .u8 0) 1 rfl Try.underlying22 info5 rfl (by decide) (by omega) v393 y392 t388 _ _ _ (fun k_ => some k_ ≠ (.slice Ao21 t388.length co21 : Value).ownBlock) (fun _ => False) rfl rfl ?aO ?aR (fun _ _ h => h) (fun _ h => h.elim) ?aF ?aB ?aS ?aL ?_; (case aR => repeat (first | exact (Kd.R_reads' HO_8.out).2.2 | (with_reducible refine Kd.C_alloc ?_ _) | (with_reducible refine Kd.C_drewN ?_ _) | (with_reducible refine Kd.C_drew ?_))); (case aB => exact (by repeat (first | (with_reducible first | exact HB.out | apply below_alloc | apply pw_below_drewN | apply below_drew1) | exact HB.out))); (case aF => exact (fun k_ hk => Kd.fresh' (Kd.R_lt (by (with_reducible repeat (first | apply Kd.R_alloc | apply Kd.R_drewN | apply Kd.R_drew)); exact HO_8.out)) k_ hk)); (case aO => exact (by (with_reducible repeat (first | apply Kd.R_alloc | apply Kd.R_drewN | apply Kd.R_drew)); exact Kd.R_mono HO394.out (fun _ hk => hk.2))); (case aS => exact (below_size (by repeat (first | (with_reducible first | exact HB.out | apply below_alloc | apply pw_below_drewN | apply below_drew1) | exact HB.out)))); (case aL => have := LMc17.out; omega); intro v396 w20 ho hb hg hat; (first | rw [← Ny395.out] at ho | (simp only [Int.reduceToNat] at ho; rw [← Ny395.out] at ho)); have n0_ := Aside0.mk (Kd.R_after (ok := (fun _ => True)) (by (with_reducible repeat (first | apply Kd.R_alloc | apply Kd.R_drewN | apply Kd.R_drew)); exact HO_8.out) hg hat); have n1_ := Aside0.mk (hb); have n2_ := Aside0.mk (ho); clear HO_8; clear HB; clear HO394; have HO_8 := n0_; have HB := n1_; have HO397 := n2_; clear n0_ n1_ n2_; clear ho hb hg hat))
         go_loopg [12] kj8 (fun kq v12 w' => ∃ (x10_2 : List Int) (x12_2 : Int), v12 = .int .i64 x12_2 ∧ Aside0 (keepsakelaw21_CartBursts.l0 kq a2 t384 t388 x10_2 (Int.tmod (wrap64 (a1)) 2048) x12_2 = some r) ∧ Aside0 (kq ≤ kj8) ∧ Aside0 (Kd.R (Kd.int .u8) 5 w' w.heap.size (fun k_ => some k_ ≠ (v396 : Value).ownBlock) (.slice Ao21 t388.length co21) t388) ∧ Aside0 (Kd.R (Kd.int .u8) 5 w' w.heap.size (fun k_ => some k_ ≠ ((.slice Ao21 t388.length co21) : Value).ownBlock) v396 x10_2) ∧ Aside0 (Below w.heap.size w w'))
         case atStart => exact ⟨(y395), (0), (by first | rfl | (simp; done) | (simp [*]; done) | (simp; omega)), H', ⟨Nat.le_refl _⟩, ⟨by (with_reducible repeat (first | apply Kd.R_alloc | apply Kd.R_drewN | apply Kd.R_drew)); exact Kd.R_mono HO_8.out (fun _ hk => hk.2)⟩, ⟨by (with_reducible repeat (first | apply Kd.R_alloc | apply Kd.R_drewN | apply Kd.R_drew)); exact HO397.out⟩, ⟨by repeat (first | (with_reducible first | exact HB.out | apply below_alloc | apply pw_below_drewN | apply below_drew1) | exact HB.out)⟩⟩
         case round =>
          clear H'
          try clear c1
          try clear p2
          try clear c5
          try clear c5b0
          try clear c5b1
          try clear c6
          try clear p6
          try clear c8
          try clear c14
          try clear c14b0
          try clear c14b1
          try clear c15
          try clear c16
          try clear c17
          try clear c18
          try clear p2
          obtain ⟨x10_2, x12_2, rfl, HA, HK2, HO_8, HO_10, HB⟩ := hrel
          cases gk with
          | zero => exact absurd HA.out (by simp [keepsakelaw21_CartBursts.l0])
          | succ k2 =>
           have H := HA.out
           clear HA
           simp only [keepsakelaw21_CartBursts.l0] at H
           have HC22 := Aside0.mk H
           clear H
           go_upto_region 10 with (fail)
           go_cut [48] (fun v48 wc => ∃ (kq : Nat) (x48_21 : Bool), v48 = .bool x48_21 ∧ Aside0 (keepsakelaw21_CartBursts.j2 kq a2 t384 t388 x10_2 (Int.tmod (wrap64 (a1)) 2048) x12_2 x48_21 = some r) ∧ Aside0 (kq ≤ k2) ∧ Aside0 (Kd.R (Kd.int .u8) 5 wc w.heap.size (fun k_ => some k_ ≠ (v396 : Value).ownBlock) (.slice Ao21 t388.length co21) t388) ∧ Aside0 (Kd.R (Kd.int .u8) 5 wc w.heap.size (fun k_ => some k_ ≠ ((.slice Ao21 t388.length co21) : Value).ownBlock) v396 x10_2) ∧ Aside0 (Below w.heap.size w wc))
           case first =>
            have H := HC22.out
            clear HC22
            by_cases c23 : x12_2 < 32
            · rw [if_pos c23] at H
              have c23b0 : decide (x12_2 < 32) = true := decide_eq_true c23
              clear c23
              (first | rw [c23b0] | (simp only [i64_w, i32_w]; rw [c23b0]) | skip)
              have H' := Aside0.mk H
              clear H
              go_wp2
              go_meet
              case rel => exact ⟨_, (decide ((wrap64 ((Int.tmod (wrap64 (a1)) 2048) + x12_2)) < 2048)), (by first | rfl | (simp; done) | (simp [*]; done) | (simp; omega)), H', ⟨by have := HJ8.out; have := HK2.out; first | omega | exact Nat.le_refl _⟩, ⟨by (with_reducible repeat (first | apply Kd.R_alloc | apply Kd.R_drewN | apply Kd.R_drew)); exact HO_8.out⟩, ⟨by (with_reducible repeat (first | apply Kd.R_alloc | apply Kd.R_drewN | apply Kd.R_drew)); exact HO_10.out⟩, ⟨by repeat (first | (with_reducible first | exact HB.out | apply below_alloc | apply pw_below_drewN | apply below_drew1) | exact HB.out)⟩⟩
            · rw [if_neg c23] at H
              have c23b0 : decide (x12_2 < 32) = false := decide_eq_false c23
              clear c23
              (first | rw [c23b0] | (simp only [i64_w, i32_w]; rw [c23b0]) | skip)
              have H' := Aside0.mk H
              clear H
              go_wp2
              go_meet
              case rel => exact ⟨_, (false), (by first | rfl | (simp; done) | (simp [*]; done) | (simp; omega)), H', ⟨by have := HJ8.out; have := HK2.out; first | omega | exact Nat.le_refl _⟩, ⟨by (with_reducible repeat (first | apply Kd.R_alloc | apply Kd.R_drewN | apply Kd.R_drew)); exact HO_8.out⟩, ⟨by (with_reducible repeat (first | apply Kd.R_alloc | apply Kd.R_drewN | apply Kd.R_drew)); exact HO_10.out⟩, ⟨by repeat (first | (with_reducible first | exact HB.out | apply below_alloc | apply pw_below_drewN | apply below_drew1) | exact HB.out)⟩⟩
           case rest =>
            clear HC22
            try clear c1
            try clear c2
            try clear p2
            try clear c5
            try clear c5b0
            try clear c5b1
            try clear c6
            try clear p6
            try clear c8
            try clear c14
            try clear c14b0
            try clear c14b1
            try clear c15
            try clear c16
            try clear c17
            try clear c18
            try clear c23
            try clear c23b0
            try clear p2
            try clear p6
            obtain ⟨kq, x48_21, rfl, HA, HJ21, HO_8, HO_10, HB⟩ := hcut
            cases kq with
            | zero => exact absurd HA.out (by simp [keepsakelaw21_CartBursts.j2])
            | succ kj21 =>
             have H := HA.out
             clear HA
             simp only [keepsakelaw21_CartBursts.j2] at H
             by_cases c24 : x48_21 = true
             · subst c24
               have H1 : (if 0 ≤ x12_2 then (if (Go.bits .and .u32 (shr .u32 a2 x12_2) 1) = 1 then (if 0 ≤ (wrap64 (16 + (wrap64 (Int.tdiv (wrap64 ((Int.tmod (wrap64 (a1)) 2048) + x12_2)) 8)))) then (if (wrap64 (16 + (wrap64 (Int.tdiv (wrap64 ((Int.tmod (wrap64 (a1)) 2048) + x12_2)) 8)))) < (x10_2.length : Int) then (if 0 ≤ (Int.tmod (wrap64 ((Int.tmod (wrap64 (a1)) 2048) + x12_2)) 8) then (keepsakelaw21_CartBursts.l0 kj21 a2 t384 t388 (x10_2.set ((wrap64 (16 + (wrap64 (Int.tdiv (wrap64 ((Int.tmod (wrap64 (a1)) 2048) + x12_2)) 8)))) : Int).toNat (Go.bits .xor .u8 (rd x10_2 (wrap64 (16 + (wrap64 (Int.tdiv (wrap64 ((Int.tmod (wrap64 (a1)) 2048) + x12_2)) 8))))) (shl .u8 1 (Int.tmod (wrap64 ((Int.tmod (wrap64 (a1)) 2048) + x12_2)) 8)))) (Int.tmod (wrap64 (a1)) 2048) (wrap64 (x12_2 + 1))) else (none)) else (none)) else (none)) else (keepsakelaw21_CartBursts.l0 kj21 a2 t384 t388 x10_2 (Int.tmod (wrap64 (a1)) 2048) (wrap64 (x12_2 + 1)))) else (none)) = some r := by rw [if_pos rfl] at H; exact H
               clear H
               have H := H1
               clear H1
               by_cases c25 : 0 ≤ x12_2
               · rw [if_pos c25] at H
                 have c25b0 := eq_true c25
                 have c25b1 : decide (0 ≤ x12_2) = true := decide_eq_true c25
                 clear c25
                 obtain ⟨ji26, hji26⟩ : ∃ j_ : Int, (shr .u32 a2 x12_2) = j_ := ⟨_, rfl⟩
                 replace H : (if (Go.bits .and .u32 (ji26) 1) = 1 then (if 0 ≤ (wrap64 (16 + (wrap64 (Int.tdiv (wrap64 ((Int.tmod (wrap64 (a1)) 2048) + x12_2)) 8)))) then (if (wrap64 (16 + (wrap64 (Int.tdiv (wrap64 ((Int.tmod (wrap64 (a1)) 2048) + x12_2)) 8)))) < (x10_2.length : Int) then (if 0 ≤ (Int.tmod (wrap64 ((Int.tmod (wrap64 (a1)) 2048) + x12_2)) 8) then (keepsakelaw21_CartBursts.l0 kj21 a2 t384 t388 (x10_2.set ((wrap64 (16 + (wrap64 (Int.tdiv (wrap64 ((Int.tmod (wrap64 (a1)) 2048) + x12_2)) 8)))) : Int).toNat (Go.bits .xor .u8 (rd x10_2 (wrap64 (16 + (wrap64 (Int.tdiv (wrap64 ((Int.tmod (wrap64 (a1)) 2048) + x12_2)) 8))))) (shl .u8 1 (Int.tmod (wrap64 ((Int.tmod (wrap64 (a1)) 2048) + x12_2)) 8)))) (Int.tmod (wrap64 (a1)) 2048) (wrap64 (x12_2 + 1))) else (none)) else (none)) else (none)) else (keepsakelaw21_CartBursts.l0 kj21 a2 t384 t388 x10_2 (Int.tmod (wrap64 (a1)) 2048) (wrap64 (x12_2 + 1)))) = some r := by first | (rw [hji26] at H; exact H) | (simp only [hji26] at H ⊢; exact H)
                 have hji26_ : (a2 / 2 ^ min x12_2.toNat 32) = ji26 := hji26
                 have hji26z : x12_2 ≤ 32 → (a2 / 2 ^ x12_2.toNat) = ji26 := shr_small hji26
                 by_cases c27 : (Go.bits .and .u32 (ji26) 1) = 1
                 · rw [if_pos c27] at H
                   have c27b0 : ((Go.bits .and .u32 (ji26) 1) == 1) = true := beq_iff_eq.mpr c27
                   have c27b1 : ((Go.bits .and .u32 (ji26) 1) != 1) = false := bne_eq_false_iff_eq.mpr c27
                   clear c27
                   obtain ⟨ji28, hji28⟩ : ∃ j_ : Int, (wrap64 (16 + (wrap64 (Int.tdiv (wrap64 ((Int.tmod (wrap64 (a1)) 2048) + x12_2)) 8)))) = j_ := ⟨_, rfl⟩
                   replace H : (if 0 ≤ (ji28) then (if (ji28) < (x10_2.length : Int) then (if 0 ≤ (Int.tmod (wrap64 ((Int.tmod (wrap64 (a1)) 2048) + x12_2)) 8) then (keepsakelaw21_CartBursts.l0 kj21 a2 t384 t388 (x10_2.set ((ji28) : Int).toNat (Go.bits .xor .u8 (rd x10_2 (ji28)) (shl .u8 1 (Int.tmod (wrap64 ((Int.tmod (wrap64 (a1)) 2048) + x12_2)) 8)))) (Int.tmod (wrap64 (a1)) 2048) (wrap64 (x12_2 + 1))) else (none)) else (none)) else (none)) = some r := by first | (rw [hji28] at H; exact H) | (simp only [hji28] at H ⊢; exact H)
                   have hji28w : (IntKind.i64.wrap (16 + (wrap64 (Int.tdiv (wrap64 ((Int.tmod (wrap64 (a1)) 2048) + x12_2)) 8)))) = ji28 := (i64_w _).trans hji28
                   by_cases c29 : 0 ≤ (ji28)
                   · rw [if_pos c29] at H
                     have c29b0 : decide (0 ≤ (ji28)) = true := decide_eq_true c29
                     clear c29
                     by_cases c30 : (ji28) < (x10_2.length : Int)
                     · rw [if_pos c30] at H
                       have c30b0 : decide ((ji28) < (x10_2.length : Int)) = true := decide_eq_true c30
                       clear c30
                       obtain ⟨ji31, hji31⟩ : ∃ j_ : Int, (Int.tmod (wrap64 ((Int.tmod (wrap64 (a1)) 2048) + x12_2)) 8) = j_ := ⟨_, rfl⟩
                       replace H : (if 0 ≤ (ji31) then (keepsakelaw21_CartBursts.l0 kj21 a2 t384 t388 (x10_2.set ((ji28) : Int).toNat (Go.bits .xor .u8 (rd x10_2 (ji28)) (shl .u8 1 (ji31)))) (Int.tmod (wrap64 (a1)) 2048) (wrap64 (x12_2 + 1))) else (none)) = some r := by first | (rw [hji31] at H; exact H) | (simp only [hji31] at H ⊢; exact H)
                       by_cases c32 : 0 ≤ (ji31)
                       · rw [if_pos c32] at H
                         have c32b0 := eq_true c32
                         have c32b1 : decide (0 ≤ (ji31)) = true := decide_eq_true c32
                         clear c32
                         obtain ⟨ji33, hji33⟩ : ∃ j_ : Int, (shl .u8 1 (ji31)) = j_ := ⟨_, rfl⟩
                         replace H : (keepsakelaw21_CartBursts.l0 kj21 a2 t384 t388 (x10_2.set ((ji28) : Int).toNat (Go.bits .xor .u8 (rd x10_2 (ji28)) (ji33))) (Int.tmod (wrap64 (a1)) 2048) (wrap64 (x12_2 + 1))) = some r := by first | (rw [hji33] at H; exact H) | (simp only [hji33] at H ⊢; exact H)
                         have hji33_ : (IntKind.u8.wrap (1 * 2 ^ min (ji31).toNat 8)) = ji33 := hji33
                         have hji33z : (ji31) ≤ 8 → (IntKind.u8.wrap (1 * 2 ^ (ji31).toNat)) = ji33 := shl_small hji33
                         have hji33u : (IntKind.u8.wrap (2 ^ min (ji31).toNat 8)) = ji33 := by have h_ := hji33_; rw [Int.one_mul] at h_; exact h_
                         have hji33v : (ji31) ≤ 8 → (IntKind.u8.wrap (2 ^ (ji31).toNat)) = ji33 := fun hle_ => by have h_ := hji33z hle_; rw [Int.one_mul] at h_; exact h_
                         obtain ⟨y399, hy399⟩ : ∃ y_ : List Int, y_ = (x10_2.set ((ji28) : Int).toNat (Go.bits .xor .u8 (rd x10_2 (ji28)) (ji33))) := ⟨_, rfl⟩
                         replace H : (keepsakelaw21_CartBursts.l0 kj21 a2 t384 t388 y399 (Int.tmod (wrap64 (a1)) 2048) (wrap64 (x12_2 + 1))) = some r := by first | (rw [hy399]; with_reducible exact H) | (have H2_ := (Option.bind_some _ _).symm.trans H; rw [hy399]; with_reducible exact H2_) | (have H2_ := (Option.bind_some _ _).symm.trans H; with_reducible exact H2_) | with_reducible exact H | (rw [hy399]; exact H) | exact H
                         have Ny399 := Aside0.mk hy399
                         clear hy399
                         have H' := Aside0.mk H
                         clear H
                         try go_wp2
                         have n0_ := Aside0.mk (Kd.R_drew HO_8.out)
                         have n1_ := Aside0.mk (Kd.R_drew HO_10.out)
                         have n2_ := Aside0.mk (below_drew1 HB.out)
                         clear HO_8
                         clear HO_10
                         clear HB
                         have HO_8 := n0_
                         have HO_10 := n1_
                         have HB := n2_
                         clear n0_ n1_ n2_
                         obtain ⟨Ao36, co36, eo36⟩ := Kd.R_slice HO_10.out
                         (first | subst eo36 | (injection eo36 with f1_ f2_ f3_; have f4_ := f1_.symm; have f5_ := f3_.symm; clear f1_ f2_ f3_; subst f4_; subst f5_))
                         have p398 : 0 ≤ ((ji28) : Int) := of_decide_eq_true (by first | (with_reducible assumption) | assumption)
                         have q398 : (ji28) < (x10_2.length : Int) := of_decide_eq_true (by first | (with_reducible assumption) | assumption)
                         obtain ⟨ad398, e398, hx398_0⟩ := Kd.at_int (Kd.R_reads' HO_10.out).2.2 (ji28) p398 q398
                         cases e398
                         replace p398 := eq_true p398
                         replace q398 := eq_true q398
                         have p34 : 0 ≤ ((ji28) : Int) := of_decide_eq_true (by first | (with_reducible assumption) | assumption)
                         have q34 : ((ji28) : Int) < ((x10_2.length : Int) : Int) := of_decide_eq_true (by first | (with_reducible assumption) | assumption)
                         obtain ⟨go34, co34, eo34, gb34, gl34, cl34, HG34⟩ := Kd.R_form HO_10.out (by omega)
                         (first | cases eo34 | (injection eo34 with ea_ en_ ec_; (first | subst ea_ | (injection ea_ with ea_; subst ea_)); subst ec_; clear en_))
                         have GB34 := Aside0.mk gb34
                         have GG34 := Aside0.mk HG34
                         clear gb34 gl34 HG34
                         (first | simp only [add_plain] at hx398_0 | skip)
                         obtain ⟨hx34_0, hf34_0⟩ := Kd.R_celln 0 HO_10.out ((ji28) : Int) p34 q34
                         replace p34 := eq_true p34
                         replace q34 := eq_true q34
                         have HP37 := Kd.R_putn HO_10.out ((ji28) : Int) (Go.bits .xor .u8 (rd x10_2 (ji28)) (ji33))
                         rw [← Ny399.out] at HP37
                         have HQ37 := Aside0.mk HP37
                         clear HP37
                         refine start_ (n := 22) (S := fun w' => w'.cell? ⟨go34, ((ji28)).toNat, none⟩ = some (.int .u8 (rd x10_2 (ji28)))) (ds := [21]) #[false, false, false, false, false, false, false, false, false, false, false, false, false, false, false, false, false, false, false, false, false, false] (by kernel_rfl) rfl rfl (hx398_0) (fun hHeld => ?_); refine with_tabW keepsakelaw21_CartBursts.tab13 keepsakelaw21_CartBursts.bits13 (fun HT_ HW_ => ?_)
                         generalize wc.drew = w35 at HO_8 HO_10 HB GG34 HQ37 hf34_0 hx34_0 hx398_0 hHeld ⊢
                         refine pure_ (i := 0) (N := some 56) (v := ?_) (a' := ?_) #[true, false, false, false, false, false, false, false, false, false, false, false, false, false, false, false, false, false, false, false, false, false] rfl rfl (any_of HT_.out (by kernel_rfl)) (fun _ _ _ h => h) (Or.inl ⟨by rfl, ?_⟩) ?_ ?_
                         rotate_left
                         · intro w'
                           go_simp
                           with_reducible rfl
                         rotate_left
                         · simp only [Act.put, List.setIfInBounds_toArray, List.set_cons_zero, List.set_cons_succ, i64_w, i32_w]
                           rfl
                         refine pure_ (i := 1) (N := some 57) (v := ?_) (a' := ?_) #[true, true, false, false, false, false, false, false, false, false, false, false, false, false, false, false, false, false, false, false, false, false] rfl rfl (any_of HT_.out (by kernel_rfl)) (fun _ _ _ h => h) (Or.inl ⟨by rfl, ?_⟩) ?_ ?_
                         rotate_left
                         · intro w'
                           go_simp
                           with_reducible rfl
                         rotate_left
                         · simp only [Act.put, List.setIfInBounds_toArray, List.set_cons_zero, List.set_cons_succ, i64_w, i32_w]
                           rfl
                         refine pure_ (i := 2) (N := some 58) (v := ?_) (a' := ?_) #[true, true, true, false, false, false, false, false, false, false, false, false, false, false, false, false, false, false, false, false, false, false] rfl rfl (any_of HT_.out (by kernel_rfl)) (fun _ _ _ h => h) (Or.inl ⟨by rfl, ?_⟩) ?_ ?_
                         rotate_left
                         · intro w'
                           go_simp
                           with_reducible rfl
                         rotate_left
                         · simp only [Act.put, List.setIfInBounds_toArray, List.set_cons_zero, List.set_cons_succ, i64_w, i32_w]
                           rfl
                         refine pure_ (i := 3) (N := some 59) (v := ?_) (a' := ?_) #[true, true, true, true, false, false, false, false, false, false, false, false, false, false, false, false, false, false, false, false, false, false] rfl rfl (any_of HT_.out (by kernel_rfl)) (fun _ _ _ h => h) (Or.inl ⟨by rfl, ?_⟩) ?_ ?_
                         rotate_left
                         · intro w'
                           go_simp
                           with_reducible rfl
                         rotate_left
                         · simp only [Act.put, List.setIfInBounds_toArray, List.set_cons_zero, List.set_cons_succ, i64_w, i32_w]
                           rfl
                         refine pure_ (i := 4) (N := some 60) (v := ?_) (a' := ?_) #[true, true, true, true, true, false, false, false, false, false, false, false, false, false, false, false, false, false, false, false, false, false] rfl rfl (any_of HT_.out (by kernel_rfl)) (fun _ _ _ h => h) (Or.inl ⟨by rfl, ?_⟩) ?_ ?_
                         rotate_left
                         · intro w'
                           go_simp
                           with_reducible rfl
                         rotate_left
                         · simp only [Act.put, List.setIfInBounds_toArray, List.set_cons_zero, List.set_cons_succ, i64_w, i32_w]
                           rfl
                         refine pure_ (i := 5) (N := some 61) (v := ?_) (a' := ?_) #[true, true, true, true, true, true, false, false, false, false, false, false, false, false, false, false, false, false, false, false, false, false] rfl rfl (any_of HT_.out (by kernel_rfl)) (fun _ _ _ h => h) (Or.inl ⟨by rfl, ?_⟩) ?_ ?_
                         rotate_left
                         · intro w'
                           go_simp
                           with_reducible rfl
                         rotate_left
                         · simp only [Act.put, List.setIfInBounds_toArray, List.set_cons_zero, List.set_cons_succ, i64_w, i32_w]
                           rfl
                         refine pure_ (i := 6) (N := some 62) (v := ?_) (a' := ?_) #[true, true, true, true, true, true, true, false, false, false, false, false, false, false, false, false, false, false, false, false, false, false] rfl rfl (any_of HT_.out (by kernel_rfl)) (fun _ _ _ h => h) (Or.inl ⟨by rfl, ?_⟩) ?_ ?_
                         rotate_left
                         · intro w'
                           go_simp
                           with_reducible rfl
                         rotate_left
                         · simp only [Act.put, List.setIfInBounds_toArray, List.set_cons_zero, List.set_cons_succ, i64_w, i32_w]
                           rfl
                         refine pure_ (i := 7) (N := some 63) (v := ?_) (a' := ?_) #[true, true, true, true, true, true, true, true, false, false, false, false, false, false, false, false, false, false, false, false, false, false] rfl rfl (any_of HT_.out (by kernel_rfl)) (fun _ _ _ h => h) (Or.inl ⟨by rfl, ?_⟩) ?_ ?_
                         rotate_left
                         · intro w'
                           go_simp
                           with_reducible rfl
                         rotate_left
                         · simp only [Act.put, List.setIfInBounds_toArray, List.set_cons_zero, List.set_cons_succ, i64_w, i32_w]
                           rfl
                         refine pure_ (i := 8) (N := some 64) (v := ?_) (a' := ?_) #[true, true, true, true, true, true, true, true, true, false, false, false, false, false, false, false, false, false, false, false, false, false] rfl rfl (any_of HT_.out (by kernel_rfl)) (fun _ _ _ h => h) (Or.inl ⟨by rfl, ?_⟩) ?_ ?_
                         rotate_left
                         · intro w'
                           go_simp
                           with_reducible rfl
                         rotate_left
                         · simp only [Act.put, List.setIfInBounds_toArray, List.set_cons_zero, List.set_cons_succ, i64_w, i32_w]
                           rfl
                         refine pure_ (i := 9) (N := some 65) (v := ?_) (a' := ?_) #[true, true, true, true, true, true, true, true, true, true, false, false, false, false, false, false, false, false, false, false, false, false] rfl rfl (any_of HT_.out (by kernel_rfl)) (fun _ _ _ h => h) (Or.inl ⟨by rfl, ?_⟩) ?_ ?_
                         rotate_left
                         · intro w'
                           go_simp
                           with_reducible rfl
                         rotate_left
                         · simp only [Act.put, List.setIfInBounds_toArray, List.set_cons_zero, List.set_cons_succ, i64_w, i32_w]
                           rfl
                         refine pure_ (i := 10) (N := some 66) (v := ?_) (a' := ?_) #[true, true, true, true, true, true, true, true, true, true, true, false, false, false, false, false, false, false, false, false, false, false] rfl rfl (any_of HT_.out (by kernel_rfl)) (fun _ _ _ h => h) (Or.inl ⟨by rfl, ?_⟩) ?_ ?_
                         rotate_left
                         · intro w'
                           go_simp
                           with_reducible rfl
                         rotate_left
                         · simp only [Act.put, List.setIfInBounds_toArray, List.set_cons_zero, List.set_cons_succ, i64_w, i32_w]
                           rfl
                         refine pure_ (i := 11) (N := some 67) (v := ?_) (a' := ?_) #[true, true, true, true, true, true, true, true, true, true, true, true, false, false, false, false, false, false, false, false, false, false] rfl rfl (any_of HT_.out (by kernel_rfl)) (fun _ _ _ h => h) (Or.inl ⟨by rfl, ?_⟩) ?_ ?_
                         rotate_left
                         · intro w'
                           go_simp
                           with_reducible rfl
                         rotate_left
                         · simp only [Act.put, List.setIfInBounds_toArray, List.set_cons_zero, List.set_cons_succ, i64_w, i32_w]
                           rfl
                         refine pure_ (i := 12) (N := some 68) (v := ?_) (a' := ?_) #[true, true, true, true, true, true, true, true, true, true, true, true, true, false, false, false, false, false, false, false, false, false] rfl rfl (any_of HT_.out (by kernel_rfl)) (fun _ _ _ h => h) (Or.inl ⟨by rfl, ?_⟩) ?_ ?_
                         rotate_left
                         · intro w'
                           go_simp
                           with_reducible rfl
                         rotate_left
                         · simp only [Act.put, List.setIfInBounds_toArray, List.set_cons_zero, List.set_cons_succ, i64_w, i32_w]
                           rfl
                         refine pure_ (i := 14) (N := some 70) (v := ?_) (a' := ?_) #[true, true, true, true, true, true, true, true, true, true, true, true, true, false, true, false, false, false, false, false, false, false] rfl rfl (any_of HT_.out (by kernel_rfl)) (fun _ _ _ h => h) (Or.inl ⟨by rfl, ?_⟩) ?_ ?_
                         rotate_left
                         · intro w'
                           go_simp
                           with_reducible rfl
                         rotate_left
                         · simp only [Act.put, List.setIfInBounds_toArray, List.set_cons_zero, List.set_cons_succ, i64_w, i32_w]
                           rfl
                         refine pure_ (i := 15) (N := some 71) (v := ?_) (a' := ?_) #[true, true, true, true, true, true, true, true, true, true, true, true, true, false, true, true, false, false, false, false, false, false] rfl rfl (any_of HT_.out (by kernel_rfl)) (fun _ _ _ h => h) (Or.inl ⟨by rfl, ?_⟩) ?_ ?_
                         rotate_left
                         · intro w'
                           go_simp
                           with_reducible rfl
                         rotate_left
                         · simp only [Act.put, List.setIfInBounds_toArray, List.set_cons_zero, List.set_cons_succ, i64_w, i32_w]
                           rfl
                         refine pure_ (i := 16) (N := some 72) (v := ?_) (a' := ?_) #[true, true, true, true, true, true, true, true, true, true, true, true, true, false, true, true, true, false, false, false, false, false] rfl rfl (any_of HT_.out (by kernel_rfl)) (fun _ _ _ h => h) (Or.inl ⟨by rfl, ?_⟩) ?_ ?_
                         rotate_left
                         · intro w'
                           go_simp
                           with_reducible rfl
                         rotate_left
                         · simp only [Act.put, List.setIfInBounds_toArray, List.set_cons_zero, List.set_cons_succ, i64_w, i32_w]
                           rfl
                         refine pure_ (i := 17) (N := some 73) (v := ?_) (a' := ?_) #[true, true, true, true, true, true, true, true, true, true, true, true, true, false, true, true, true, true, false, false, false, false] rfl rfl (any_of HT_.out (by kernel_rfl)) (fun _ _ _ h => h) (Or.inl ⟨by rfl, ?_⟩) ?_ ?_
                         rotate_left
                         · intro w'
                           go_simp
                           with_reducible rfl
                         rotate_left
                         · simp only [Act.put, List.setIfInBounds_toArray, List.set_cons_zero, List.set_cons_succ, i64_w, i32_w]
                           rfl
                         refine pure_ (i := 18) (N := some 74) (v := ?_) (a' := ?_) #[true, true, true, true, true, true, true, true, true, true, true, true, true, false, true, true, true, true, true, false, false, false] rfl rfl (any_of HT_.out (by kernel_rfl)) (fun _ _ _ h => h) (Or.inl ⟨by rfl, ?_⟩) ?_ ?_
                         rotate_left
                         · intro w'
                           go_simp
                           with_reducible rfl
                         rotate_left
                         · simp only [Act.put, List.setIfInBounds_toArray, List.set_cons_zero, List.set_cons_succ, i64_w, i32_w]
                           rfl
                         refine take_ (i := 13) (N := some 69) (v := ?_) (a' := ?_) #[true, true, true, true, true, true, true, true, true, true, true, true, true, true, true, true, true, true, true, false, false, false] rfl rfl (take_ofW HT_.out HW_.out (by kernel_rfl)) (fun _ _ _ h => h) (Or.inl ⟨by rfl, ?_⟩) hHeld ?_ ?_
                         rotate_left
                         · intro w' s0
                           go_simp
                           with_reducible rfl
                         rotate_left
                         · simp only [Act.put, List.setIfInBounds_toArray, List.set_cons_zero, List.set_cons_succ, i64_w, i32_w]
                           rfl
                         refine pure_ (i := 19) (N := some 75) (v := ?_) (a' := ?_) #[true, true, true, true, true, true, true, true, true, true, true, true, true, true, true, true, true, true, true, true, false, false] rfl rfl (any_of HT_.out (by kernel_rfl)) (fun _ _ _ h => h) (Or.inl ⟨by rfl, ?_⟩) ?_ ?_
                         rotate_left
                         · intro w'
                           go_simp
                           with_reducible rfl
                         rotate_left
                         · simp only [Act.put, List.setIfInBounds_toArray, List.set_cons_zero, List.set_cons_succ, i64_w, i32_w]
                           rfl
                         refine pure_ (i := 20) (N := some 76) (v := ?_) (a' := ?_) #[true, true, true, true, true, true, true, true, true, true, true, true, true, true, true, true, true, true, true, true, true, false] rfl rfl (any_of HT_.out (by kernel_rfl)) (fun _ _ _ h => h) (Or.inl ⟨by rfl, ?_⟩) ?_ ?_
                         rotate_left
                         · intro w'
                           go_simp
                           with_reducible rfl
                         rotate_left
                         · simp only [Act.put, List.setIfInBounds_toArray, List.set_cons_zero, List.set_cons_succ, i64_w, i32_w]
                           rfl
                         refine last_ (i := 21) (N := none) #[true, true, true, true, true, true, true, true, true, true, true, true, true, true, true, true, true, true, true, true, true, true] rfl rfl (one_of HT_.out (by kernel_rfl)) (by decide) (fun K hK => ?_)
                         refine skip_ (w1 := ?_) (by rfl) rfl ?_ ?_
                         rotate_left
                         · go_simp
                           rfl
                         refine hK.out _ _ ?_
                         clear hK K
                         refine done_ (done_of HT_.out (by kernel_rfl)) ?_
                         try go_wp2
                         go_roundg kj21
                         case measure => have := HJ8.out; have := HK2.out; have := HJ21.out; omega
                         case rel => exact ⟨(y399), (wrap64 (x12_2 + 1)), (by first | rfl | (simp; done) | (simp [*]; done) | (simp; omega)), H', ⟨by have := HJ8.out; have := HK2.out; have := HJ21.out; omega⟩, ⟨by (with_reducible repeat (first | apply Kd.R_alloc | apply Kd.R_drewN | apply Kd.R_drew)); exact Kd.R_mono (Kd.R_far (p := ⟨go34, ((ji28) : Int).toNat, none⟩) (Kd.R_mono HO_8.out (fun k_ hk => (⟨hk, fun e_ => hk (by rw [e_]; rfl)⟩ : _ ∧ k_ ≠ go34))) (fun _ hk => hk.2) (.int .u8 (Go.bits .xor .u8 (rd x10_2 (ji28)) (ji33)))) (fun _ hk => hk.1)⟩, ⟨by (with_reducible repeat (first | apply Kd.R_alloc | apply Kd.R_drewN | apply Kd.R_drew)); exact HQ37.out⟩, ⟨by repeat (first | (with_reducible first | exact HB.out | apply below_alloc | apply pw_below_drewN | apply below_drew1 | refine below_set ?_ GB34.out) | exact HB.out)⟩⟩
                       · rw [if_neg c32] at H
                         exact absurd H (by simp)
                     · rw [if_neg c30] at H
                       exact absurd H (by simp)
                   · rw [if_neg c29] at H
                     exact absurd H (by simp)
                 · rw [if_neg c27] at H
                   have c27b0 : ((Go.bits .and .u32 (ji26) 1) == 1) = false := beq_eq_false_iff_ne.mpr c27
                   have c27b1 : ((Go.bits .and .u32 (ji26) 1) != 1) = true := bne_iff_ne.mpr c27
                   have H' := Aside0.mk H
                   clear H
                   go_wp2
                   go_roundg kj21
                   case measure => have := HJ8.out; have := HK2.out; have := HJ21.out; omega
                   case rel => exact ⟨(x10_2), (wrap64 (x12_2 + 1)), (by first | rfl | (simp; done) | (simp [*]; done) | (simp; omega)), H', ⟨by have := HJ8.out; have := HK2.out; have := HJ21.out; omega⟩, ⟨by (with_reducible repeat (first | apply Kd.R_alloc | apply Kd.R_drewN | apply Kd.R_drew)); exact HO_8.out⟩, ⟨by (with_reducible repeat (first | apply Kd.R_alloc | apply Kd.R_drewN | apply Kd.R_drew)); exact HO_10.out⟩, ⟨by repeat (first | (with_reducible first | exact HB.out | apply below_alloc | apply pw_below_drewN | apply below_drew1) | exact HB.out)⟩⟩
               · rw [if_neg c25] at H
                 exact absurd H (by simp)
             · replace c24 := Bool.eq_false_iff.mpr c24
               subst c24
               have H1 : ((cart_Parse.f x10_2).bind fun bt400 => ((keepsakeref01_Same.f kj21 t388 x10_2).bind fun t410 => (if t384 = true then (if ((bt400.2.2.2.2.2.2 == 0) == t410) = true then (some ((bt400.2.2.2.2.2.2 == 8) == (!t410))) else (none)) else (none)))) = some r := by rw [if_neg (show ¬ (false = true) by decide)] at H; exact H
               clear H
               have H := H1
               clear H1
               replace H := Option.bind_eq_some_iff.mp H
               obtain ⟨⟨t400, t401, t402, t403, t404, t405, t408⟩, A380, H⟩ := H
               replace H : ((keepsakeref01_Same.f kj21 t388 x10_2).bind fun t410 => (if t384 = true then (if ((t408 == 0) == t410) = true then (some ((t408 == 8) == (!t410))) else (none)) else (none))) = some r := H
               have A38 := Aside0.mk A380
               clear A380
               replace H := Option.bind_eq_some_iff.mp H
               obtain ⟨t410, A390, H⟩ := H
               replace H : (if t384 = true then (if ((t408 == 0) == t410) = true then (some ((t408 == 8) == (!t410))) else (none)) else (none)) = some r := H
               have A39 := Aside0.mk A390
               clear A390
               by_cases c40 : t384 = true
               · subst c40
                 have H1 : (if ((t408 == 0) == t410) = true then (some ((t408 == 8) == (!t410))) else (none)) = some r := by rw [if_pos rfl] at H; exact H
                 clear H
                 have H := H1
                 clear H1
                 by_cases c41 : ((t408 == 0) == t410) = true
                 · rw [if_pos c41] at H
                   have c41b0 : ((t408 == 0) == t410) = true := c41
                   (try (have c41b1 : decide ((t408 == 0) = t410) = true := by simpa using c41))
                   (try (have c41b2 : ((t408 == 0) == t410) = true := by simpa using c41))
                   clear c41
                   obtain rfl := Option.some.inj H
                   obtain ⟨Ao42, co42, eo42⟩ := Kd.R_slice HO_10.out
                   subst eo42
                   go_wp2_with (first | ((with_reducible refine gate_callee (f := 9) rfl ?_); refine goesL_ (some 79) rfl rfl Try.func9 (by kernel_rfl) rfl #[.slice Ao42 x10_2.length co42] rfl (by (try simp only [List.map_toArray, List.map_cons, List.map_nil]); first | done | rfl | (simp only [List.length_drop, List.length_take]; rfl)) ?_; (with_reducible refine (cart_Parse.calls _ _ x10_2 t400 t401 t402 t403 t404 t405 t408 _ ?side1 ?side2 A38.out).mono ?_); (case side1 => repeat (first | exact (Kd.R_reads' HO_10.out).2.2 | (with_reducible refine Kd.C_alloc ?_ _) | (with_reducible refine Kd.C_drewN ?_ _) | (with_reducible refine Kd.C_drew ?_))); (case side2 => exact (Kd.R_reads' HO_10.out).2.1); rintro e w43 ⟨v406, rfl, ho0, hb⟩; refine ⟨_, rfl, ?_⟩; have n0_ := Aside0.mk (Kd.R_elder' (by (with_reducible repeat (first | apply Kd.R_alloc | apply Kd.R_drewN | apply Kd.R_drew)); exact HO_8.out) (Kd.R_base ho0) hb); have n1_ := Aside0.mk (Kd.R_elder' (by (with_reducible repeat (first | apply Kd.R_alloc | apply Kd.R_drewN | apply Kd.R_drew)); exact HO_10.out) (Kd.R_base ho0) hb); have n2_ := Aside0.mk (Kd.R_lower (Kd.R_new' (Kd.R_new' ho0 (Kd.R_lt (by (with_reducible repeat (first | apply Kd.R_alloc | apply Kd.R_drewN | apply Kd.R_drew)); exact HO_8.out))) (Kd.R_lt (by (with_reducible repeat (first | apply Kd.R_alloc | apply Kd.R_drewN | apply Kd.R_drew)); exact HO_10.out))) (below_size (by repeat (first | (with_reducible first | exact HB.out | apply below_alloc | apply pw_below_drewN | apply below_drew1) | exact HB.out)))); have n3_ := Aside0.mk (below_step (by repeat (first | (with_reducible first | exact HB.out | apply below_alloc | apply pw_below_drewN | apply below_drew1) | exact HB.out)) hb); clear HO_8; clear HO_10; clear HB; have HO_8 := n0_; have HO_10 := n1_; have HO407 := n2_; have HB := n3_; clear n0_ n1_ n2_ n3_; (try clear hb); (try clear hb2); (try clear hk); (try clear hi); (try clear ho0)) | ((with_reducible refine gate_dst (N := 13) rfl ?_); (try (refine gate_guard (by rfl) ?_; dsimp only)); refine box_event ?hg (N := 13) ?hd (cs := #[.int .i64 0, .int .i64 0, .int .i64 0, .int .i64 0, .int .i64 0, .slice none 0 0]) (t := 27) ?hr ?_; (case hd => rfl); (case hg => rfl); (case hr => first | (go_simp; done) | (go_simp; rfl)); intro gb409 hg w44 hbox hb; have n0_ := Aside0.mk (Kd.R_below (by (with_reducible repeat (first | apply Kd.R_alloc | apply Kd.R_drewN | apply Kd.R_drew)); exact HO_8.out) hb); have n1_ := Aside0.mk (Kd.R_below (by (with_reducible repeat (first | apply Kd.R_alloc | apply Kd.R_drewN | apply Kd.R_drew)); exact HO_10.out) hb); have n2_ := Aside0.mk (Kd.R_below (by (with_reducible repeat (first | apply Kd.R_alloc | apply Kd.R_drewN | apply Kd.R_drew)); exact HO407.out) hb); have n3_ := Aside0.mk (below_step (by repeat (first | (with_reducible first | exact HB.out | apply below_alloc | apply pw_below_drewN | apply below_drew1) | exact HB.out)) hb); have n4_ := Aside0.mk (hbox); have n5_ := Aside0.mk ((by rw [hg]; exact (below_size (by repeat (first | (with_reducible first | exact HB.out | apply below_alloc | apply pw_below_drewN | apply below_drew1) | exact HB.out))) : w.heap.size ≤ gb409)); have n6_ := Aside0.mk ((by rw [hg]; exact (below_size (by repeat (first | (with_reducible first | exact HB.out | apply below_alloc | apply pw_below_drewN | apply below_drew1) | exact HB.out))) : w.heap.size ≤ gb409)); clear HO_8; clear HO_10; clear HO407; clear HB; have HO_8 := n0_; have HO_10 := n1_; have HO407 := n2_; have HB := n3_; have BK409 := n4_; have GW409 := n5_; have GE409 := n6_; clear n0_ n1_ n2_ n3_ n4_ n5_ n6_; clear hb hbox hg; have hcz45_0 : w44.cell? ⟨gb409, 0, none⟩ = some (.int .i64 0) := (blk_cell BK409.out 0).trans rfl; have hcz45_1 : w44.cell? ⟨gb409, 1, none⟩ = some (.int .i64 0) := (blk_cell BK409.out 1).trans rfl; have hcz45_2 : w44.cell? ⟨gb409, 2, none⟩ = some (.int .i64 0) := (blk_cell BK409.out 2).trans rfl; have hcz45_3 : w44.cell? ⟨gb409, 3, none⟩ = some (.int .i64 0) := (blk_cell BK409.out 3).trans rfl; have hcz45_4 : w44.cell? ⟨gb409, 4, none⟩ = some (.int .i64 0) := (blk_cell BK409.out 4).trans rfl; have hcz45_5 : w44.cell? ⟨gb409, 5, none⟩ = some (.slice none 0 0) := (blk_cell BK409.out 5).trans rfl; have hfz45_0 := blk_frozen BK409.out 0; have hfz45_1 := blk_frozen BK409.out 1; have hfz45_2 := blk_frozen BK409.out 2; have hfz45_3 := blk_frozen BK409.out 3; have hfz45_4 := blk_frozen BK409.out 4; have hfz45_5 := blk_frozen BK409.out 5; obtain ⟨Ao46, co46, eo46⟩ := Kd.R_slice HO407.out; subst eo46) | ((with_reducible refine gate_callee (f := 17) rfl ?_); refine goesL_ (some 84) rfl rfl Try.func17 (by kernel_rfl) rfl #[.slice Ao21 t388.length co21, .slice Ao42 x10_2.length co42] rfl (by (try simp only [List.map_toArray, List.map_cons, List.map_nil]); first | done | rfl | (simp only [List.length_drop, List.length_take]; rfl)) ?_; (with_reducible refine (keepsakeref01_Same.calls kj21 _ _ t388 _ _ x10_2 t410 _ ?side1 ?side2 ?side3 ?side4 A39.out).mono ?_); (case side1 => refine (Kd.R_reads' (e := 5) (base := w.heap.size) (ok := fun k_ => (some k_ ≠ (.slice Ao42 x10_2.length co42 : Value).ownBlock ∧ some k_ ≠ (.slice Ao46 t405.length co46 : Value).ownBlock)) (n := t388.length) (c := co21) ?_).2.2; exact (by (with_reducible repeat (first | apply Kd.R_alloc | apply Kd.R_drewN | apply Kd.R_drew)); exact (Kd.R_mono (Kd.R_far (p := ⟨gb409, 5, none⟩) (Kd.R_far (p := ⟨gb409, 4, none⟩) (Kd.R_far (p := ⟨gb409, 3, none⟩) (Kd.R_far (p := ⟨gb409, 2, none⟩) (Kd.R_far (p := ⟨gb409, 1, none⟩) (Kd.R_far (p := ⟨gb409, 0, none⟩) (Kd.R_types HO_8.out BK409.out (by decide)) (fun _ hk => hk.2) (.int .i64 t400)) (fun _ hk => hk.2) (.int .i64 t401)) (fun _ hk => hk.2) (.int .i64 t402)) (fun _ hk => hk.2) (.int .i64 t403)) (fun _ hk => hk.2) (.int .i64 t404)) (fun _ hk => hk.2) (.slice Ao46 t405.length co46)) (fun _ h_ => h_.1)))); (case side2 => exact (Kd.R_reads' HO_8.out).2.1); (case side3 => refine (Kd.R_reads' (e := 5) (base := w.heap.size) (ok := fun k_ => (some k_ ≠ (.slice Ao21 t388.length co21 : Value).ownBlock ∧ some k_ ≠ (.slice Ao46 t405.length co46 : Value).ownBlock)) (n := x10_2.length) (c := co42) ?_).2.2; exact (by (with_reducible repeat (first | apply Kd.R_alloc | apply Kd.R_drewN | apply Kd.R_drew)); exact (Kd.R_mono (Kd.R_far (p := ⟨gb409, 5, none⟩) (Kd.R_far (p := ⟨gb409, 4, none⟩) (Kd.R_far (p := ⟨gb409, 3, none⟩) (Kd.R_far (p := ⟨gb409, 2, none⟩) (Kd.R_far (p := ⟨gb409, 1, none⟩) (Kd.R_far (p := ⟨gb409, 0, none⟩) (Kd.R_types HO_10.out BK409.out (by decide)) (fun _ hk => hk.2) (.int .i64 t400)) (fun _ hk => hk.2) (.int .i64 t401)) (fun _ hk => hk.2) (.int .i64 t402)) (fun _ hk => hk.2) (.int .i64 t403)) (fun _ hk => hk.2) (.int .i64 t404)) (fun _ hk => hk.2) (.slice Ao46 t405.length co46)) (fun _ h_ => h_.1)))); (case side4 => exact (Kd.R_reads' HO_10.out).2.1); rintro e w' ⟨rfl, ⟨nd, rfl⟩⟩; refine ⟨_, rfl, ?_⟩))
                   go_ret
                   exact ⟨by first | rfl | (simp [errW_none, errW_some] <;> rfl) | (simp [*, errW_none, errW_some] <;> rfl), by repeat (first | (with_reducible first | exact HB.out | apply below_alloc | apply pw_below_drewN | apply below_drew1 | refine below_set ?_ GE409.out) | exact HB.out)⟩
                 · rw [if_neg c41] at H
                   exact absurd H (by simp)
               · replace c40 := Bool.eq_false_iff.mpr c40
                 subst c40
                 have H1 : (none) = some r := by rw [if_neg (show ¬ (false = true) by decide)] at H; exact H
                 clear H
                 have H := H1
                 clear H1
                 exact absurd H (by simp)
       · rw [if_neg c17] at H
         exact absurd H (by simp)

/-- THE ONE PURE STATEMENT of keepsakelaw21_CartBursts: yours. -/
def keepsakelaw21_CartBursts.Pure : Prop := ∀ (l0 : List Int) (a1 : Int) (a2 : Int), l0.length ≤ maxLen → l0.length * 1 ≤ 140737488351232 → (∀ x ∈ l0, (Lit.int .u8 x).wf = true) → (Lit.int .u16 a1).wf = true → (Lit.int .u32 a2).wf = true → ∃ k, keepsakelaw21_CartBursts.f k l0 a1 a2 = some true
theorem keepsakelaw21_CartBursts.walk (P : keepsakelaw21_CartBursts.Pure) (a0 : Option Addr) (len0 cap0 : Nat) (z0 : List Int) (a1 : Int) (a2 : Int) (w : World) (w0 : (a0 = none ∧ len0 = 0 ∧ cap0 = 0 ∧ z0 = []) ∨ ∃ x, a0 = some x ∧ len0 ≤ cap0 ∧ cap0 ≤ maxLen ∧ z0.length = cap0 ∧ (∀ i, i < z0.length → w.cell? (x.add i) = some (.int .u8 (z0.getD i 0))) ∧ ∀ n ∈ z0, (Lit.int .u8 n).wf = true) (y0 : len0 * 1 ≤ 140737488351232) (w1 : (Lit.int .u16 a1).wf = true) (w2 : (Lit.int .u32 a2).wf = true) :
 Calls Try.prog 6 #[.slice a0 len0 cap0, .int .u16 a1, .int .u32 a2] w fun e w' => e = .returned (.bool true) ∧ Below w.heap.size w w' := by
 obtain ⟨l0, rfl, hr0, hm0, hw0, hc0⟩ := ReadsInt.ofRowC w0
 obtain ⟨k, h⟩ := P l0 a1 a2 hm0 y0 hw0 w1 w2
 refine (keepsakelaw21_CartBursts.calls k _ _ l0 a1 a2 true w (Kd.C_of_reads (d := (0 : Int)) (h1 := fun _ => rfl) hr0) hc0 h).mono ?_
 rintro e w' ⟨rfl, hd⟩
 exact ⟨rfl, hd⟩

end Go.Proofs.Ytoiiphlhdnlniaa.All
-- slimmed
