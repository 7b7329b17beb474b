-- written by a program of mine (xprint_patch.py over the kit's print)
import Derived.Test.YtehjfcfnnpjedaaAx0
namespace Go.Proofs.Ytehjfcfnnpjedaa.Given
end Go.Proofs.Ytehjfcfnnpjedaa.Given
namespace Go.Proofs.Ytehjfcfnnpjedaa.All
open Go.Proofs.Ytehjfcfnnpjedaa.Given
open Go.RowKit Go.Proofs.YtehjfcfnnpjedaaW.PrintWords Go.Proofs.YtehjfcfnnpjedaaW.PrintLast Go.Proofs.YtehjfcfnnpjedaaW.PrintMore
attribute [local go_sem] max2_int min2_int max_two min_two max_three min_three max_four min_four   -- for this text's walks alone
set_option linter.unusedVariables false
set_option linter.unusedSimpArgs false

/-! ### keepsakeref10_Fill: function 9 -/
def keepsakeref10_Fill.l0 : Nat → List Int → Int → List Int → Int → Option (List Int)
  | 0, _, _, _, _ => none
  | k + 1, x0, x1, x5, x6 => if x6 < x1 then (if (x0.length : Int) > 0 then (if (x0.length : Int) = 0 then (none) else (if 0 ≤ (Int.tmod x6 (x0.length : Int)) then (if (Int.tmod x6 (x0.length : Int)) < (x0.length : Int) then (if 0 ≤ x6 then (if x6 < (x5.length : Int) then (keepsakeref10_Fill.l0 k x0 x1 (x5.set (x6 : Int).toNat (rd x0 (Int.tmod x6 (x0.length : Int)))) (wrap64 (x6 + 1))) else (none)) else (none)) else (none)) else (none))) else (some x5)) else (some x5)
def keepsakeref10_Fill.f (k : Nat) (l0 : List Int) (a1 : Int) : Option (List Int) := if 0 ≤ a1 then (if (a1 : Int).toNat ≤ 281474976710656 then (keepsakeref10_Fill.l0 k l0 a1 (List.replicate (a1 : Int).toNat 0) 0) else (none)) else (none)
theorem keepsakeref10_Fill.mono_l : ∀ k, (∀ y0 y1 y2 y3, LeO (keepsakeref10_Fill.l0 k y0 y1 y2 y3) (keepsakeref10_Fill.l0 (k + 1) y0 y1 y2 y3))
  | 0 => fun _ _ _ _ r h => by simp [keepsakeref10_Fill.l0] at h
  | k + 1 => by
    have ih0 := keepsakeref10_Fill.mono_l k
    · intro y0 y1 y2 y3
      unfold keepsakeref10_Fill.l0
      repeat' first
      | (with_reducible exact ih0 _ _ _ _)
      | (with_reducible exact LeO.refl _)
      | (with_reducible exact LeO.none _)
      | (with_reducible refine LeO.ite ?_ ?_)
      | (with_reducible refine LeO.bind ?_ (fun _ => ?_))
      | exact ih0 _ _ _ _
      | exact LeO.none _
      | refine LeO.ite ?_ ?_
      | refine LeO.bind ?_ (fun _ => ?_)
theorem keepsakeref10_Fill.mono : ∀ a0 a1 k, LeO (keepsakeref10_Fill.f k a0 a1) (keepsakeref10_Fill.f (k + 1) a0 a1) := by
  intro a0 a1 k
  have ih0 := keepsakeref10_Fill.mono_l k
  unfold keepsakeref10_Fill.f
  repeat' first
      | (with_reducible exact ih0 _ _ _ _)
      | (with_reducible exact LeO.refl _)
      | (with_reducible exact LeO.none _)
      | (with_reducible refine LeO.ite ?_ ?_)
      | (with_reducible refine LeO.bind ?_ (fun _ => ?_))
      | exact ih0 _ _ _ _
      | exact LeO.none _
      | refine LeO.ite ?_ ?_
      | refine LeO.bind ?_ (fun _ => ?_)
set_option maxHeartbeats 8000000 in
set_option maxRecDepth 100000 in
theorem keepsakeref10_Fill.calls (k : Nat) (A0 : Option Addr) (c0 : Nat) (l0 : List Int) (a1 : Int) (r : List Int) (w : World) (hr0 : Kd.C (Kd.int .u8) w A0 l0.length l0) (hc0 : l0.length ≤ c0) (h : keepsakeref10_Fill.f k l0 a1 = some r) :
    Calls Try.prog 9 #[.slice A0 l0.length c0, .int .i64 a1] w fun e w' => ∃ v0_ : Value, e = .returned (v0_) ∧ Kd.R (Kd.int .u8) 5 w' w.heap.size (fun _ => True) v0_ r ∧ Below w.heap.size w w' := by
  have HR0 := Aside0.mk hr0
  have HC0 := Aside0.mk hc0
  clear hr0 hc0
  have HB := Aside0.mk (Below.refl w.heap.size w)
  have H : (if 0 ≤ a1 then (if (a1 : Int).toNat ≤ 281474976710656 then (keepsakeref10_Fill.l0 k l0 a1 (List.replicate (a1 : Int).toNat 0) 0) else (none)) else (none)) = some r := h
  clear h
  by_cases c3 : 0 ≤ a1
  · rw [if_pos c3] at H
    have c3b0 := eq_true c3
    have c3b1 : decide (0 ≤ a1) = true := decide_eq_true c3
    clear c3
    by_cases c4 : (a1 : Int).toNat ≤ 281474976710656
    · rw [if_pos c4] at H
      have c4b0 := eq_true c4
      have c4b1 : decide ((a1 : Int).toNat ≤ 281474976710656) = true := decide_eq_true c4
      clear c4
      obtain ⟨y101, hy101⟩ : ∃ y_ : List Int, y_ = (List.replicate (a1 : Int).toNat 0) := ⟨_, rfl⟩
      replace H : (keepsakeref10_Fill.l0 k l0 a1 y101 0) = some r := by first | (rw [hy101]; with_reducible exact H) | (have H2_ := (Option.bind_some _ _).symm.trans H; rw [hy101]; with_reducible exact H2_) | (have H2_ := (Option.bind_some _ _).symm.trans H; with_reducible exact H2_) | with_reducible exact H | (rw [hy101]; exact H) | exact H
      have Ny101 := Aside0.mk hy101
      clear hy101
      have H' := Aside0.mk H
      clear H
      go_enter Try.func9, Try.ntmps9
      go_wp2_with (first | ((with_reducible refine gate_dst (N := 8) rfl ?_); (try (refine gate_guard (by rfl) ?_; dsimp only)); refine Kd.R_make (Kd.int .u8) _ 5 rfl (N := 8) rfl 22 _ _ rfl a1 rfl rfl Try.underlying22 (.int .u8 0) 1 info5 rfl (by decide) (by omega) 0 (ok := fun _ => True) (okp := fun _ => True) rfl (fun _ hk => hk) trivial (of_decide_eq_true (by first | (with_reducible assumption) | assumption)) (Nat.le_trans (Nat.mul_le_mul_right _ (of_decide_eq_true (by first | (with_reducible assumption) | assumption) : a1.toNat ≤ 281474976710656)) (by omega)) (Below.refl _ _) (Nat.le_refl _) ?_; intro v102 w5 ho6 hb hg_ hnew_; clear hg_ hnew_; (first | rw [← Ny101.out] at ho6 | (simp only [Int.reduceToNat] at ho6; rw [← Ny101.out] at ho6)); have n0_ := Aside0.mk (Kd.R_lower ho6 (below_size (by repeat (first | (with_reducible first | exact HB.out | apply below_alloc | apply pw_below_drewN | apply below_drew1) | exact HB.out)))); have n1_ := Aside0.mk (below_step (by repeat (first | (with_reducible first | exact HB.out | apply below_alloc | apply pw_below_drewN | apply below_drew1) | exact HB.out)) hb); clear HB; have HO103 := n0_; have HB := n1_; clear n0_ n1_; clear hb ho6))
      go_loopg [6] k (fun kq v6 w' => ∃ (x5_1 : List Int) (x6_1 : Int), v6 = .int .i64 x6_1 ∧ Aside0 (keepsakeref10_Fill.l0 kq l0 a1 x5_1 x6_1 = some r) ∧ Aside0 (kq ≤ k) ∧ Aside0 (Kd.R (Kd.int .u8) 5 w' w.heap.size (fun _ => True) v102 x5_1) ∧ Aside0 (Below w.heap.size w w'))
      case atStart => exact ⟨(y101), (0), (by first | rfl | (simp; done) | (simp [*]; done) | (simp; omega)), H', ⟨Nat.le_refl _⟩, ⟨by (with_reducible repeat (first | apply Kd.R_alloc | apply Kd.R_drewN | apply Kd.R_drew)); exact HO103.out⟩, ⟨by repeat (first | (with_reducible first | exact HB.out | apply below_alloc | apply pw_below_drewN | apply below_drew1) | exact HB.out)⟩⟩
      case round =>
        clear H'
        try clear p2
        try clear c3
        try clear c3b0
        try clear c3b1
        try clear c4
        try clear c4b0
        try clear c4b1
        obtain ⟨x5_1, x6_1, rfl, HA, HK1, HO_5, HB⟩ := hrel
        cases gk with
        | zero => exact absurd HA.out (by simp [keepsakeref10_Fill.l0])
        | succ k1 =>
          have H := HA.out
          clear HA
          simp only [keepsakeref10_Fill.l0] at H
          by_cases c7 : x6_1 < a1
          · rw [if_pos c7] at H
            have c7b0 : decide (x6_1 < a1) = true := decide_eq_true c7
            clear c7
            by_cases c8 : (l0.length : Int) > 0
            · rw [if_pos c8] at H
              have c8b0 : decide (0 < (l0.length : Int)) = true := decide_eq_true c8
              have c8b1 : decide (0 < l0.length) = true := decide_eq_true (by omega)
              clear c8
              by_cases c9 : (l0.length : Int) = 0
              · rw [if_pos c9] at H
                exact absurd H (by simp)
              · rw [if_neg c9] at H
                have c9b0 : ((l0.length : Int) == 0) = false := beq_eq_false_iff_ne.mpr c9
                have c9b1 : ((l0.length : Int) != 0) = true := bne_iff_ne.mpr c9
                have c9b2 : ¬ (l0 = []) := fun h_ => c9 (by rw [h_]; rfl)
                obtain ⟨ji10, hji10⟩ : ∃ j_ : Int, (Int.tmod x6_1 (l0.length : Int)) = j_ := ⟨_, rfl⟩
                replace H : (if 0 ≤ (ji10) then (if (ji10) < (l0.length : Int) then (if 0 ≤ x6_1 then (if x6_1 < (x5_1.length : Int) then (keepsakeref10_Fill.l0 k1 l0 a1 (x5_1.set (x6_1 : Int).toNat (rd l0 (ji10))) (wrap64 (x6_1 + 1))) else (none)) else (none)) else (none)) else (none)) = some r := by first | (rw [hji10] at H; exact H) | (simp only [hji10] at H ⊢; exact H)
                by_cases c11 : 0 ≤ (ji10)
                · rw [if_pos c11] at H
                  have c11b0 : decide (0 ≤ (ji10)) = true := decide_eq_true c11
                  clear c11
                  by_cases c12 : (ji10) < (l0.length : Int)
                  · rw [if_pos c12] at H
                    have c12b0 : decide ((ji10) < (l0.length : Int)) = true := decide_eq_true c12
                    clear c12
                    by_cases c13 : 0 ≤ x6_1
                    · rw [if_pos c13] at H
                      have c13b0 : decide (0 ≤ x6_1) = true := decide_eq_true c13
                      clear c13
                      by_cases c14 : x6_1 < (x5_1.length : Int)
                      · rw [if_pos c14] at H
                        have c14b0 : decide (x6_1 < (x5_1.length : Int)) = true := decide_eq_true c14
                        clear c14
                        obtain ⟨y105, hy105⟩ : ∃ y_ : List Int, y_ = (x5_1.set (x6_1 : Int).toNat (rd l0 (ji10))) := ⟨_, rfl⟩
                        replace H : (keepsakeref10_Fill.l0 k1 l0 a1 y105 (wrap64 (x6_1 + 1))) = some r := by first | (rw [hy105]; with_reducible exact H) | (have H2_ := (Option.bind_some _ _).symm.trans H; rw [hy105]; with_reducible exact H2_) | (have H2_ := (Option.bind_some _ _).symm.trans H; with_reducible exact H2_) | with_reducible exact H | (rw [hy105]; exact H) | exact H
                        have Ny105 := Aside0.mk hy105
                        clear hy105
                        have H' := Aside0.mk H
                        clear H
                        have p104 : 0 ≤ ((ji10) : Int) := of_decide_eq_true (by first | (with_reducible assumption) | assumption)
                        have q104 : (ji10) < (l0.length : Int) := of_decide_eq_true (by first | (with_reducible assumption) | assumption)
                        obtain ⟨ad104, e104, hx104_0⟩ := Kd.at_int HR0.out (ji10) p104 q104
                        cases e104
                        replace hx104_0 := (HB.out.cell (World.block_lt_of_cell? w _ hx104_0)).trans hx104_0
                        replace p104 := eq_true p104
                        replace q104 := eq_true q104
                        have p15 : 0 ≤ (x6_1 : Int) := of_decide_eq_true (by first | (with_reducible assumption) | assumption)
                        have q15 : (x6_1 : Int) < ((x5_1.length : Int) : Int) := of_decide_eq_true (by first | (with_reducible assumption) | assumption)
                        obtain ⟨go15, co15, eo15, gb15, gl15, cl15, HG15⟩ := Kd.R_form HO_5.out (by omega)
                        (first | cases eo15 | (injection eo15 with ea_ en_ ec_; (first | subst ea_ | (injection ea_ with ea_; subst ea_)); subst ec_; clear en_))
                        have GB15 := Aside0.mk gb15
                        have GG15 := Aside0.mk HG15
                        clear gb15 gl15 HG15
                        obtain ⟨hx15_0, hf15_0⟩ := Kd.R_celln 0 HO_5.out (x6_1 : Int) p15 q15
                        replace p15 := eq_true p15
                        replace q15 := eq_true q15
                        have HP16 := Kd.R_putg HO_5.out (x6_1 : Int) (rd l0 (ji10))
                        go_wp2_with (first | ((with_reducible refine gate_store (t := 5) (p := 28) rfl ?_); refine store_event (t := 5) (p := 28) (v := ?vo_w17) (w1 := (wr.setCell ⟨go15, (x6_1 : Int).toNat, none⟩ (.int .u8 (rd l0 (ji10))))) ?hg ?ho ?hn ?hr ?_; (case ho => rfl); (case hg => rfl); (case hn => rfl); (case hr => first | (go_simp; done) | (go_simp; rfl)); intro w17 hw; have hg : wr.grownBy w17 (some go15) := (by rw [hw]; exact HP16.2); have hp_ : Kd.R (Kd.int .u8) 5 w17 w.heap.size (fun _ => True) (.slice (some ⟨go15, 0, none⟩) x5_1.length co15) y105 := (by rw [hw, Ny105.out]; exact HP16.1); clear HP16; have n0_ := Aside0.mk (hp_); have n1_ := Aside0.mk ((by rw [hw]; exact below_set (HB.out) GB15.out : Below w.heap.size w w17)); clear HO_5; clear HB; have HO_5 := n0_; have HB := n1_; clear n0_ n1_; clear hg hw hp_))
                        go_roundg k1
                        case measure => have := HK1.out; omega
                        case rel => exact ⟨(y105), (wrap64 (x6_1 + 1)), (by first | rfl | (simp; done) | (simp [*]; done) | (simp; omega)), H', ⟨by have := HK1.out; omega⟩, ⟨by (with_reducible repeat (first | apply Kd.R_alloc | apply Kd.R_drewN | apply Kd.R_drew)); exact HO_5.out⟩, ⟨by repeat (first | (with_reducible first | exact HB.out | apply below_alloc | apply pw_below_drewN | apply below_drew1) | exact HB.out)⟩⟩
                      · rw [if_neg c14] at H
                        exact absurd H (by simp)
                    · rw [if_neg c13] at H
                      exact absurd H (by simp)
                  · rw [if_neg c12] at H
                    exact absurd H (by simp)
                · rw [if_neg c11] at H
                  exact absurd H (by simp)
            · rw [if_neg c8] at H
              have c8b0 : decide (0 < (l0.length : Int)) = false := decide_eq_false c8
              have c8b1 : decide (0 < l0.length) = false := decide_eq_false (by omega)
              clear c8
              obtain rfl := Option.some.inj H
              go_wp2
              go_ret
              exact ⟨_, by first | rfl | (simp [errW_none, errW_some] <;> rfl) | (simp [*, errW_none, errW_some] <;> rfl), by (with_reducible repeat (first | apply Kd.R_alloc | apply Kd.R_drewN | apply Kd.R_drew)); exact HO_5.out, by repeat (first | (with_reducible first | exact HB.out | apply below_alloc | apply pw_below_drewN | apply below_drew1) | exact HB.out)⟩
          · rw [if_neg c7] at H
            have c7b0 : decide (x6_1 < a1) = false := decide_eq_false c7
            clear c7
            obtain rfl := Option.some.inj H
            go_wp2
            go_ret
            exact ⟨_, by first | rfl | (simp [errW_none, errW_some] <;> rfl) | (simp [*, errW_none, errW_some] <;> rfl), by (with_reducible repeat (first | apply Kd.R_alloc | apply Kd.R_drewN | apply Kd.R_drew)); exact HO_5.out, by repeat (first | (with_reducible first | exact HB.out | apply below_alloc | apply pw_below_drewN | apply below_drew1) | exact HB.out)⟩
    · rw [if_neg c4] at H
      exact absurd H (by simp)
  · rw [if_neg c3] at H
    exact absurd H (by simp)

-- GIVEN BY HAND: function 25 (slices_Clone_byte_byte)

/-! ### geo_within: function 27 -/
def geo_within.f (a0 : Int) (a1 : Int) : Option (Bool) := if a0 ≥ 0 then (some (decide (a0 ≤ a1))) else (some false)
set_option maxHeartbeats 8000000 in
set_option maxRecDepth 100000 in
theorem geo_within.calls (a0 : Int) (a1 : Int) (r : Bool) (w : World) (h : geo_within.f a0 a1 = some r) :
    Calls Try.prog 27 #[.int .i64 a0, .int .i64 a1] w fun e w' => e = .returned (.bool r) ∧ Drawn0 w w' := by
  have H : (if a0 ≥ 0 then (some (decide (a0 ≤ a1))) else (some false)) = some r := h
  clear h
  by_cases c3 : a0 ≥ 0
  · rw [if_pos c3] at H
    have c3b0 : decide (0 ≤ a0) = true := decide_eq_true c3
    clear c3
    obtain rfl := Option.some.inj H
    go_enter Try.func27, Try.ntmps27
    go_wp2
    go_ret
    exact ⟨by first | rfl | (simp; done) | (simp [*]; done), by repeat (first | exact Drawn0.refl _ | apply Drawn0.step)⟩
  · rw [if_neg c3] at H
    have c3b0 : decide (0 ≤ a0) = false := decide_eq_false c3
    clear c3
    obtain rfl := Option.some.inj H
    go_enter Try.func27, Try.ntmps27
    go_wp2
    go_ret
    exact ⟨by first | rfl | (simp; done) | (simp [*]; done), by repeat (first | exact Drawn0.refl _ | apply Drawn0.step)⟩

/-! ### geo_Sram: function 26 -/
def geo_Sram.f (a0 : Int) : Option (Int) := (geo_within.f a0 128).bind fun t106 => (if t106 = true then (some (wrap64 (a0 * 64))) else (some 0))
set_option maxHeartbeats 8000000 in
set_option maxRecDepth 100000 in
theorem geo_Sram.calls (a0 : Int) (r : Int) (w : World) (h : geo_Sram.f a0 = some r) :
    Calls Try.prog 26 #[.int .i64 a0] w fun e w' => e = .returned (.int .i64 r) ∧ Drawn0 w w' := by
  have H : ((geo_within.f a0 128).bind fun t106 => (if t106 = true then (some (wrap64 (a0 * 64))) else (some 0))) = some r := h
  clear h
  replace H := Option.bind_eq_some_iff.mp H
  obtain ⟨t106, A20, H⟩ := H
  replace H : (if t106 = true then (some (wrap64 (a0 * 64))) else (some 0)) = some r := H
  have A2 := Aside0.mk A20
  clear A20
  by_cases c3 : t106 = true
  · subst c3
    have H1 : (some (wrap64 (a0 * 64))) = some r := by rw [if_pos rfl] at H; exact H
    clear H
    have H := H1
    clear H1
    obtain rfl := Option.some.inj H
    go_enter Try.func26, Try.ntmps26
    go_wp2_with (first | ((with_reducible refine gate_callee (f := 27) rfl ?_); refine goesL_ (some 4) rfl rfl Try.func27 (by kernel_rfl) rfl #[.int .i64 a0, .int .i64 128] rfl (by (try simp only [List.map_toArray, List.map_cons, List.map_nil]); first | done | rfl | (simp only [List.length_drop, List.length_take]; rfl)) ?_; (with_reducible refine (geo_within.calls a0 128 true _ A2.out).mono ?_); rintro e w' ⟨rfl, ⟨nd, rfl⟩⟩; refine ⟨_, rfl, ?_⟩))
    go_ret
    exact ⟨by first | rfl | (simp; done) | (simp [*]; done), by repeat (first | exact Drawn0.refl _ | apply Drawn0.step)⟩
  · replace c3 := Bool.eq_false_iff.mpr c3
    subst c3
    have H1 : (some 0) = some r := by rw [if_neg (show ¬ (false = true) by decide)] at H; exact H
    clear H
    have H := H1
    clear H1
    obtain rfl := Option.some.inj H
    go_enter Try.func26, Try.ntmps26
    go_wp2_with (first | ((with_reducible refine gate_callee (f := 27) rfl ?_); refine goesL_ (some 4) rfl rfl Try.func27 (by kernel_rfl) rfl #[.int .i64 a0, .int .i64 128] rfl (by (try simp only [List.map_toArray, List.map_cons, List.map_nil]); first | done | rfl | (simp only [List.length_drop, List.length_take]; rfl)) ?_; (with_reducible refine (geo_within.calls a0 128 false _ A2.out).mono ?_); rintro e w' ⟨rfl, ⟨nd, rfl⟩⟩; refine ⟨_, rfl, ?_⟩))
    go_ret
    exact ⟨by first | rfl | (simp; done) | (simp [*]; done), by repeat (first | exact Drawn0.refl _ | apply Drawn0.step)⟩

-- NOT PRINTED: function 20 (sram_New)

-- NOT PRINTED: function 10 (keepsakelaw12_made)

/-- A state of type 32 at block g of W; what its slices lead to came in by w0. -/
def IsS32 (w0 W : World) (g : Nat) (f0 : Bool) (f1 : List Int) : Prop := ∃ A1 c1, W.heap[g]? = some (.cells #[.bool f0, .slice A1 f1.length c1] 32 (0, 0)) ∧ w0.heap.size ≤ g ∧ Kd.C (Kd.int .u8) w0 A1 f1.length f1
theorem IsS32.grown {w0 W : World} {g : Nat} {f0 : Bool} {f1 : List Int} {W1 : World} {row : Option Nat} (h : IsS32 w0 W g f0 f1) (hw : W.grownBy W1 row) (hne : some g ≠ row) : IsS32 w0 W1 g f0 f1 := by
  obtain ⟨A1, c1, hb, hg, hr1⟩ := h
  exact ⟨A1, c1, blk_grown hb hw hne, hg, hr1⟩
theorem IsS32.own_neN {w0 W : World} {g : Nat} {f0 : Bool} {f1 : List Int} {α : Type} {d : Kd α} {e : Nat} {base : Nat} {ok : Nat → Prop} {v : Value} {xs : List α} (h : IsS32 w0 W g f0 f1) (ho : Kd.N d e W base ok v xs) (ht : e ≠ 32) : some g ≠ v.ownBlock := by
  obtain ⟨A1, c1, hb, hg, hr1⟩ := h
  exact Kd.N_ne ho hb ht
theorem IsS32.fresh {w0 W : World} {g : Nat} {f0 : Bool} {f1 : List Int} (h : IsS32 w0 W g f0 f1) : ∀ k, W.heap.size ≤ k → k ≠ g := by
  obtain ⟨A1, c1, hb, hg, hr1⟩ := h
  exact Kd.freshB hb
theorem IsS32.kept {w0 W : World} {g : Nat} {f0 : Bool} {f1 : List Int} {W1 : World} {S : Nat → Prop} (h : IsS32 w0 W g f0 f1) (hk : Kept W W1 S) (hne : ¬ S g) : IsS32 w0 W1 g f0 f1 := by
  obtain ⟨A1, c1, hb, hg, hr1⟩ := h
  exact ⟨A1, c1, blk_kept hb hk hne, hg, hr1⟩
theorem IsS32.below {w0 W : World} {g : Nat} {f0 : Bool} {f1 : List Int} {W1 : World} (h : IsS32 w0 W g f0 f1) (hw : Below W.heap.size W W1) : IsS32 w0 W1 g f0 f1 := h.grown (grown_of_below hw none) (by simp)
theorem IsS32.alloc {w0 W : World} {g : Nat} {f0 : Bool} {f1 : List Int} (h : IsS32 w0 W g f0 f1) (o : Obj) : IsS32 w0 (W.alloc o) g f0 f1 := h.below (below_alloc (Below.refl _ _) o)
theorem IsS32.drewN {w0 W : World} {g : Nat} {f0 : Bool} {f1 : List Int} (h : IsS32 w0 W g f0 f1) (m : Nat) : IsS32 w0 (W.drewN m) g f0 f1 := h
theorem IsS32.drew {w0 W : World} {g : Nat} {f0 : Bool} {f1 : List Int} (h : IsS32 w0 W g f0 f1) : IsS32 w0 W.drew g f0 f1 := h
theorem IsS32.at_ {w0 W : World} {g : Nat} {f0 : Bool} {f1 : List Int} {w' : World} {m : Nat} (hq : W.drewN m = w') (h : IsS32 w0 W g f0 f1) : IsS32 w0 w' g f0 f1 := by subst hq; exact IsS32.drewN h m
theorem IsS32.apart {w0 W : World} {g : Nat} {f0 : Bool} {f1 : List Int} {α : Type} {d : Kd α} {e : Nat} {base : Nat} {ok : Nat → Prop} {v : Value} {xs : List α} (h : IsS32 w0 W g f0 f1) (ho : d.R e W base ok v xs) (ht : ∀ q, q ∈ e :: d.E → q ≠ 32) : d.R e W base (fun k => ok k ∧ k ≠ g) v xs := by
  obtain ⟨A1, c1, hb, hg, hr1⟩ := h
  exact Kd.R_types ho hb ht
theorem IsS32.own_ne {w0 W : World} {g : Nat} {f0 : Bool} {f1 : List Int} {α : Type} {d : Kd α} {e : Nat} {base : Nat} {ok : Nat → Prop} {v : Value} {xs : List α} (h : IsS32 w0 W g f0 f1) (ho : d.R e W base ok v xs) (ht : e ≠ 32) : some g ≠ v.ownBlock := by
  obtain ⟨A1, c1, hb, hg, hr1⟩ := h
  exact Kd.R_ne ho hb ht
theorem IsS32.apartQ {w0 W : World} {g : Nat} {f0 : Bool} {f1 : List Int} {α : Type} {d : Kd α} {e : Nat} {base : Nat} {ok : Nat → Prop} {v : Value} {xs : List α} (h : IsS32 w0 W g f0 f1) (ho : d.Q e W base ok v xs) (ht : ∀ q, q ∈ e :: d.E → q ≠ 32) : d.Q e W base (fun k => ok k ∧ k ≠ g) v xs := by
  obtain ⟨A1, c1, hb, hg, hr1⟩ := h
  exact Kd.Q_types ho hb ht
theorem IsS32.own_neQ {w0 W : World} {g : Nat} {f0 : Bool} {f1 : List Int} {α : Type} {d : Kd α} {e : Nat} {base : Nat} {ok : Nat → Prop} {v : Value} {xs : List α} (h : IsS32 w0 W g f0 f1) (ho : d.Q e W base ok v xs) (ht : e ≠ 32) : some g ≠ v.ownBlock := by
  obtain ⟨A1, c1, hb, hg, hr1⟩ := h
  exact Kd.Q_ne ho hb ht
theorem IsS32.apartS {w0 W : World} {g : Nat} {f0 : Bool} {f1 : List Int} {α : Type} {d : Kd α} {e : Nat} {base : Nat} {ok : Nat → Prop} {v : Value} {xs : List α} (h : IsS32 w0 W g f0 f1) (ho : d.S e W base ok v xs) (ht : ∀ q, q ∈ e :: d.E → q ≠ 32) : d.S e W base (fun k => ok k ∧ k ≠ g) v xs := by
  obtain ⟨A1, c1, hb, hg, hr1⟩ := h
  exact Kd.S_types ho hb ht
theorem IsS32.own_neS {w0 W : World} {g : Nat} {f0 : Bool} {f1 : List Int} {α : Type} {d : Kd α} {e : Nat} {base : Nat} {ok : Nat → Prop} {v : Value} {xs : List α} (h : IsS32 w0 W g f0 f1) (ho : d.S e W base ok v xs) (ht : e ≠ 32) : some g ≠ v.ownBlock := by
  obtain ⟨A1, c1, hb, hg, hr1⟩ := h
  exact Kd.S_ne ho hb ht
theorem IsS32.lt {w0 W : World} {g : Nat} {f0 : Bool} {f1 : List Int} (h : IsS32 w0 W g f0 f1) : g < W.heap.size := by
  obtain ⟨A1, c1, hb, hg, hr1⟩ := h
  exact blk_lt hb
theorem IsS32.ge {w0 W : World} {g : Nat} {f0 : Bool} {f1 : List Int} (h : IsS32 w0 W g f0 f1) : w0.heap.size ≤ g := by
  obtain ⟨A1, c1, hb, hg, hr1⟩ := h
  exact hg
theorem IsS32.ne_blk {w0 W : World} {g : Nat} {f0 : Bool} {f1 : List Int} {a : Nat} {cs : Array Value} {t : TypeId} {fr : Nat × Nat} (h : IsS32 w0 W g f0 f1) (hb2 : W.heap[a]? = some (.cells cs t fr)) (ht : t ≠ 32) : g ≠ a := by
  obtain ⟨A1, c1, hb, hg, hr1⟩ := h
  rintro rfl
  rw [hb] at hb2
  injection hb2 with hb2
  injection hb2 with _ ht2
  exact ht ht2.symm
theorem IsS32.far {w0 W : World} {g : Nat} {f0 : Bool} {f1 : List Int} {p : Addr} (h : IsS32 w0 W g f0 f1) (hne : g ≠ p.block) (u : Value) : IsS32 w0 (W.setCell p u) g f0 f1 := by
  obtain ⟨A1, c1, hb, hg, hr1⟩ := h
  exact ⟨A1, c1, blk_far hb hne u, hg, hr1⟩
theorem cellS32_0 {W : World} {g : Nat} {A1 : Option Addr} {c1 : Nat} {f0 : Bool} {f1 : List Int} (h : W.heap[g]? = some (.cells #[.bool f0, .slice A1 f1.length c1] 32 (0, 0))) : W.cell? ⟨g, 0, none⟩ = some (.bool f0) := (blk_cell h 0).trans rfl
theorem IsS32.set_0 {w0 W : World} {g : Nat} {f0 : Bool} {f1 : List Int} (h : IsS32 w0 W g f0 f1) (x : Bool) : IsS32 w0 (W.setCell ⟨g, 0, none⟩ (.bool x)) g x f1 := by
  obtain ⟨A1, c1, hb, hg, hr1⟩ := h
  exact ⟨A1, c1, by simpa using blk_set hb 0 (.bool x), hg, hr1⟩
theorem cellS32_1 {W : World} {g : Nat} {A1 : Option Addr} {c1 : Nat} {f0 : Bool} {f1 : List Int} (h : W.heap[g]? = some (.cells #[.bool f0, .slice A1 f1.length c1] 32 (0, 0))) : W.cell? ⟨g, 1, none⟩ = some (.slice A1 f1.length c1) := (blk_cell h 1).trans rfl
theorem IsS32.new (w0 W : World) (A1 : Option Addr) (c1 : Nat) (f0 : Bool) (f1 : List Int) (hB : Below w0.heap.size w0 W) (hr1 : Kd.C (Kd.int .u8) w0 A1 f1.length f1) : IsS32 w0 (W.alloc (.cells #[.bool f0, .slice A1 f1.length c1] 32)) W.heap.size f0 f1 := ⟨A1, c1, by simpa using heap_alloc_new W _, hB.size, hr1⟩

/-! ### sram_Chip_at: function 24 -/
def sram_Chip_at.f (s0_0 : Bool) (s0_1 : List Int) (a1 : Int) : Option (Int × Bool) := if (s0_1.length : Int) = 0 then (none) else (some ((mx 0 a1) % (s0_1.length : Int), s0_0))
set_option maxHeartbeats 8000000 in
set_option maxRecDepth 100000 in
theorem sram_Chip_at.calls (g : Nat) (s0_0 : Bool) (s0_1 : List Int) (a1 : Int) (r1 : Int) (r2 : Bool) (w0 w : World) (hI : IsS32 w0 w g s0_0 s0_1) (hB : Below w0.heap.size w0 w) (h : sram_Chip_at.f s0_0 s0_1 a1 = some (r1, r2)) :
    Calls Try.prog 24 #[.pointer (some ⟨g, 0, none⟩), .int .i64 a1] w fun e w' => e = .returned (.int .i64 r1) ∧ IsS32 w0 w' g r2 s0_1 ∧ Below w0.heap.size w0 w' ∧ KeepBut w w' g none := by
  have HI0 := Aside0.mk hI
  have HK := Aside0.mk (KeepBut.refl w g none)
  have HL := Aside0.mk hB.size
  clear hI
  have HW0 := Aside0.mk hB.size
  have HB := Aside0.mk hB
  clear hB
  have H : (if (s0_1.length : Int) = 0 then (none) else (some ((mx 0 a1) % (s0_1.length : Int), s0_0))) = some (r1, r2) := h
  clear h
  obtain ⟨ji3, hji3⟩ : ∃ j_ : Int, (mx 0 a1) = j_ := ⟨_, rfl⟩
  replace H : (if (s0_1.length : Int) = 0 then (none) else (some ((ji3) % (s0_1.length : Int), s0_0))) = some (r1, r2) := by first | (rw [hji3] at H; exact H) | (simp only [hji3] at H ⊢; exact H)
  (try (have hji3l : 0 ≤ ji3 := by (rw [← hji3]; unfold mx; (repeat' split) <;> omega)))
  (try (have hji3m : 0 ≤ ji3 := by omega))
  have hji3_ : (if 0 < a1 then a1 else 0) = ji3 := hji3
  by_cases c4 : (s0_1.length : Int) = 0
  · rw [if_pos c4] at H
    exact absurd H (by simp)
  · rw [if_neg c4] at H
    have c4b0 : ((s0_1.length : Int) == 0) = false := beq_eq_false_iff_ne.mpr c4
    have c4b1 : ((s0_1.length : Int) != 0) = true := bne_iff_ne.mpr c4
    have c4b2 : ¬ (s0_1 = []) := fun h_ => c4 (by rw [h_]; rfl)
    simp only [Option.some.injEq, Prod.mk.injEq] at H
    obtain ⟨rfl, rfl⟩ := H
    obtain ⟨ASz5_1, cSz5_1, HGz5, hgz5, HSz5_1⟩ := HI0.out
    have hcz5_0 := cellS32_0 HGz5
    have hcz5_1 := cellS32_1 HGz5
    have hfz5_0 := blk_frozen HGz5 0
    clear HGz5 hgz5
    go_enter Try.func24, Try.ntmps24
    go_wp2
    go_ret
    exact ⟨by first | rfl | (simp [errW_none, errW_some] <;> rfl) | (simp only [← hji3]; first | rfl | (simp [errW_none, errW_some] <;> rfl)) | (simp [*, errW_none, errW_some] <;> rfl), by repeat (first | (with_reducible first | exact HI0.out | apply IsS32.alloc | apply IsS32.drewN | apply IsS32.drew | apply IsS32.set_0) | exact HI0.out), by repeat (first | (with_reducible first | exact HB.out | apply below_alloc | apply pw_below_drewN | apply below_drew1 | refine below_set ?_ (IsS32.ge HI0.out)) | exact HB.out), by repeat (first | (with_reducible first | exact HK.out | apply KeepBut.set_ | apply keep_drewN | apply keep_drew | apply keep_alloc) | exact HK.out)⟩

-- NOT PRINTED: function 13 (sram_Chip_Write)

-- NOT PRINTED: function 15 (sram_Chip_Read)

-- NOT PRINTED: function 8 (keepsakelaw12_awake)

/-! ### keepsakeref12_Locked: function 11 -/
def keepsakeref12_Locked.l0 : Nat → List (S34) → Int → Option (Bool)
  | 0, _, _ => none
  | k + 1, x0, x3 => if x3 ≥ 0 then (if 0 ≤ x3 then (if x3 < (x0.length : Int) then (if ((rd_T34 x0 x3).f0) = 1 then (some (((rd_T34 x0 x3).f2) != 165)) else (keepsakeref12_Locked.l0 k x0 (wrap64 (x3 - 1)))) else (none)) else (none)) else (some true)
def keepsakeref12_Locked.f (k : Nat) (l0 : List (S34)) : Option (Bool) := keepsakeref12_Locked.l0 k l0 (wrap64 ((l0.length : Int) - 1))
theorem keepsakeref12_Locked.mono_l : ∀ k, (∀ y0 y1, LeO (keepsakeref12_Locked.l0 k y0 y1) (keepsakeref12_Locked.l0 (k + 1) y0 y1))
  | 0 => fun _ _ r h => by simp [keepsakeref12_Locked.l0] at h
  | k + 1 => by
    have ih0 := keepsakeref12_Locked.mono_l k
    · intro y0 y1
      unfold keepsakeref12_Locked.l0
      repeat' first
      | (with_reducible exact ih0 _ _)
      | (with_reducible exact LeO.refl _)
      | (with_reducible exact LeO.none _)
      | (with_reducible refine LeO.ite ?_ ?_)
      | (with_reducible refine LeO.bind ?_ (fun _ => ?_))
      | exact ih0 _ _
      | exact LeO.none _
      | refine LeO.ite ?_ ?_
      | refine LeO.bind ?_ (fun _ => ?_)
theorem keepsakeref12_Locked.mono : ∀ a0 k, LeO (keepsakeref12_Locked.f k a0) (keepsakeref12_Locked.f (k + 1) a0) := by
  intro a0 k
  have ih0 := keepsakeref12_Locked.mono_l k
  unfold keepsakeref12_Locked.f
  repeat' first
      | (with_reducible exact ih0 _ _)
      | (with_reducible exact LeO.refl _)
      | (with_reducible exact LeO.none _)
      | (with_reducible refine LeO.ite ?_ ?_)
      | (with_reducible refine LeO.bind ?_ (fun _ => ?_))
      | exact ih0 _ _
      | exact LeO.none _
      | refine LeO.ite ?_ ?_
      | refine LeO.bind ?_ (fun _ => ?_)
set_option maxHeartbeats 8000000 in
set_option maxRecDepth 100000 in
theorem keepsakeref12_Locked.calls (k : Nat) (A0 : Option Addr) (c0 : Nat) (l0 : List (S34)) (r : Bool) (w : World) (hr0 : Kd.C k34 w A0 l0.length l0) (hc0 : l0.length ≤ c0) (h : keepsakeref12_Locked.f k l0 = some r) :
    Calls Try.prog 11 #[.slice A0 l0.length c0] w fun e w' => e = .returned (.bool r) ∧ Drawn0 w w' := by
  have HR0 := Aside0.mk hr0
  have HC0 := Aside0.mk hc0
  clear hr0 hc0
  have H : (keepsakeref12_Locked.l0 k l0 (wrap64 ((l0.length : Int) - 1))) = some r := h
  clear h
  have H' := Aside0.mk H
  clear H
  go_enter Try.func11, Try.ntmps11
  go_wp2
  go_loopg [3] k (fun kq v3 w' => ∃ (x3_1 : Int), v3 = .int .i64 x3_1 ∧ Aside0 (keepsakeref12_Locked.l0 kq l0 x3_1 = some r) ∧ Aside0 (kq ≤ k) ∧ Drawn0 w w')
  case atStart => exact ⟨(wrap64 ((l0.length : Int) - 1)), (by first | rfl | (simp; done) | (simp [*]; done) | (simp; omega)), H', ⟨Nat.le_refl _⟩, by repeat (first | exact Drawn0.refl _ | apply Drawn0.step)⟩
  case round =>
    clear H'
    try clear c1
    obtain ⟨x3_1, rfl, HA, HK1, ⟨m1, rfl⟩⟩ := hrel
    cases gk with
    | zero => exact absurd HA.out (by simp [keepsakeref12_Locked.l0])
    | succ k1 =>
      have H := HA.out
      clear HA
      simp only [keepsakeref12_Locked.l0] at H
      by_cases c2 : x3_1 ≥ 0
      · rw [if_pos c2] at H
        have c2b0 : decide (0 ≤ x3_1) = true := decide_eq_true c2
        clear c2
        by_cases c3 : 0 ≤ x3_1
        · rw [if_pos c3] at H
          have c3b0 : decide (0 ≤ x3_1) = true := decide_eq_true c3
          clear c3
          by_cases c4 : x3_1 < (l0.length : Int)
          · rw [if_pos c4] at H
            have c4b0 : decide (x3_1 < (l0.length : Int)) = true := decide_eq_true c4
            clear c4
            by_cases c5 : ((rd_T34 l0 x3_1).f0) = 1
            · rw [if_pos c5] at H
              have c5b0 : (((rd_T34 l0 x3_1).f0) == 1) = true := beq_iff_eq.mpr c5
              have c5b1 : (((rd_T34 l0 x3_1).f0) != 1) = false := bne_eq_false_iff_eq.mpr c5
              clear c5
              obtain rfl := Option.some.inj H
              have p113 : 0 ≤ (x3_1 : Int) := of_decide_eq_true (by first | (with_reducible assumption) | assumption)
              have q113 : x3_1 < (l0.length : Int) := of_decide_eq_true (by first | (with_reducible assumption) | assumption)
              obtain ⟨ad113, e113, hx113_0, hx113_1, hx113_2⟩ := at_T34 HR0.out x3_1 p113 q113
              cases e113
              replace p113 := eq_true p113
              replace q113 := eq_true q113
              have p114 : 0 ≤ (x3_1 : Int) := of_decide_eq_true (by first | (with_reducible assumption) | assumption)
              have q114 : x3_1 < (l0.length : Int) := of_decide_eq_true (by first | (with_reducible assumption) | assumption)
              obtain ⟨ad114, e114, hx114_0, hx114_1, hx114_2⟩ := at_T34 HR0.out x3_1 p114 q114
              obtain rfl : ad113 = ad114 := (by injection e114)
              replace p114 := eq_true p114
              replace q114 := eq_true q114
              go_wp2
              go_ret
              exact ⟨by first | rfl | (simp; done) | (simp [*]; done), by repeat (first | exact Drawn0.refl _ | apply Drawn0.step)⟩
            · rw [if_neg c5] at H
              have c5b0 : (((rd_T34 l0 x3_1).f0) == 1) = false := beq_eq_false_iff_ne.mpr c5
              have c5b1 : (((rd_T34 l0 x3_1).f0) != 1) = true := bne_iff_ne.mpr c5
              have H' := Aside0.mk H
              clear H
              have p113 : 0 ≤ (x3_1 : Int) := of_decide_eq_true (by first | (with_reducible assumption) | assumption)
              have q113 : x3_1 < (l0.length : Int) := of_decide_eq_true (by first | (with_reducible assumption) | assumption)
              obtain ⟨ad113, e113, hx113_0, hx113_1, hx113_2⟩ := at_T34 HR0.out x3_1 p113 q113
              cases e113
              replace p113 := eq_true p113
              replace q113 := eq_true q113
              go_wp2
              go_roundg k1
              case measure => have := HK1.out; omega
              case rel => exact ⟨(wrap64 (x3_1 - 1)), (by first | rfl | (simp; done) | (simp [*]; done) | (simp; omega)), H', ⟨by have := HK1.out; omega⟩, by repeat (first | exact Drawn0.refl _ | apply Drawn0.step)⟩
          · rw [if_neg c4] at H
            exact absurd H (by simp)
        · rw [if_neg c3] at H
          exact absurd H (by simp)
      · rw [if_neg c2] at H
        have c2b0 : decide (0 ≤ x3_1) = false := decide_eq_false c2
        clear c2
        obtain rfl := Option.some.inj H
        go_wp2
        go_ret
        exact ⟨by first | rfl | (simp; done) | (simp [*]; done), by repeat (first | exact Drawn0.refl _ | apply Drawn0.step)⟩

/-! ### keepsakeref12_Byte: function 16 -/
def keepsakeref12_Byte.l0 : Nat → List Int → List (S34) → Int → Int → Option (Int)
  | 0, _, _, _, _ => none
  | k + 1, x0, x1, x2, x7 => if x7 ≥ 0 then (if 0 ≤ x7 then (if x7 ≤ (x1.length : Int) then ((keepsakeref12_Locked.f k (x1.take (x7 : Int).toNat)).bind fun t119 => (if x7 < (x1.length : Int) then (if ((rd_T34 x1 x7).f0) = 0 then (if (x0.length : Int) = 0 then (none) else (if ((mx 0 ((rd_T34 x1 x7).f1)) % (x0.length : Int)) = x2 then (if t119 = true then (keepsakeref12_Byte.l0 k x0 x1 x2 (wrap64 (x7 - 1))) else (some ((rd_T34 x1 x7).f2))) else (keepsakeref12_Byte.l0 k x0 x1 x2 (wrap64 (x7 - 1))))) else (keepsakeref12_Byte.l0 k x0 x1 x2 (wrap64 (x7 - 1)))) else (none))) else (none)) else (none)) else (if 0 ≤ x2 then (if x2 < (x0.length : Int) then (some (rd x0 x2)) else (none)) else (none))
def keepsakeref12_Byte.f (k : Nat) (l0 : List Int) (l1 : List (S34)) (a2 : Int) : Option (Int) := keepsakeref12_Byte.l0 k l0 l1 a2 (wrap64 ((l1.length : Int) - 1))
theorem keepsakeref12_Byte.mono_l : ∀ k, (∀ y0 y1 y2 y3, LeO (keepsakeref12_Byte.l0 k y0 y1 y2 y3) (keepsakeref12_Byte.l0 (k + 1) y0 y1 y2 y3))
  | 0 => fun _ _ _ _ r h => by simp [keepsakeref12_Byte.l0] at h
  | k + 1 => by
    have ih0 := keepsakeref12_Byte.mono_l k
    · intro y0 y1 y2 y3
      unfold keepsakeref12_Byte.l0
      repeat' first
      | (with_reducible exact ih0 _ _ _ _)
      | (with_reducible exact keepsakeref12_Locked.mono _ _)
      | (with_reducible exact LeO.refl _)
      | (with_reducible exact LeO.none _)
      | (with_reducible refine LeO.ite ?_ ?_)
      | (with_reducible refine LeO.bind ?_ (fun _ => ?_))
      | exact ih0 _ _ _ _
      | exact keepsakeref12_Locked.mono _ _
      | exact LeO.none _
      | refine LeO.ite ?_ ?_
      | refine LeO.bind ?_ (fun _ => ?_)
theorem keepsakeref12_Byte.mono : ∀ a0 a1 a2 k, LeO (keepsakeref12_Byte.f k a0 a1 a2) (keepsakeref12_Byte.f (k + 1) a0 a1 a2) := by
  intro a0 a1 a2 k
  have ih0 := keepsakeref12_Byte.mono_l k
  unfold keepsakeref12_Byte.f
  repeat' first
      | (with_reducible exact ih0 _ _ _ _)
      | (with_reducible exact keepsakeref12_Locked.mono _ _)
      | (with_reducible exact LeO.refl _)
      | (with_reducible exact LeO.none _)
      | (with_reducible refine LeO.ite ?_ ?_)
      | (with_reducible refine LeO.bind ?_ (fun _ => ?_))
      | exact ih0 _ _ _ _
      | exact keepsakeref12_Locked.mono _ _
      | exact LeO.none _
      | refine LeO.ite ?_ ?_
      | refine LeO.bind ?_ (fun _ => ?_)
set_option maxHeartbeats 8000000 in
set_option maxRecDepth 100000 in
theorem keepsakeref12_Byte.calls (k : Nat) (A0 : Option Addr) (c0 : Nat) (l0 : List Int) (A1 : Option Addr) (c1 : Nat) (l1 : List (S34)) (a2 : Int) (r : Int) (w : World) (hr0 : Kd.C (Kd.int .u8) w A0 l0.length l0) (hc0 : l0.length ≤ c0) (hr1 : Kd.C k34 w A1 l1.length l1) (hc1 : l1.length ≤ c1) (h : keepsakeref12_Byte.f k l0 l1 a2 = some r) :
    Calls Try.prog 16 #[.slice A0 l0.length c0, .slice A1 l1.length c1, .int .i64 a2] w fun e w' => e = .returned (.int .u8 r) ∧ Below w.heap.size w w' := by
  have HR0 := Aside0.mk hr0
  have HC0 := Aside0.mk hc0
  clear hr0 hc0
  have HR1 := Aside0.mk hr1
  have HC1 := Aside0.mk hc1
  clear hr1 hc1
  have HB := Aside0.mk (Below.refl w.heap.size w)
  have H : (keepsakeref12_Byte.l0 k l0 l1 a2 (wrap64 ((l1.length : Int) - 1))) = some r := h
  clear h
  have H' := Aside0.mk H
  clear H
  go_enter Try.func16, Try.ntmps16
  go_wp2
  go_loopg [7] k (fun kq v7 w' => ∃ (x7_1 : Int), v7 = .int .i64 x7_1 ∧ Aside0 (keepsakeref12_Byte.l0 kq l0 l1 a2 x7_1 = some r) ∧ Aside0 (kq ≤ k) ∧ Aside0 (Below w.heap.size w w'))
  case atStart => exact ⟨(wrap64 ((l1.length : Int) - 1)), (by first | rfl | (simp; done) | (simp [*]; done) | (simp; omega)), H', ⟨Nat.le_refl _⟩, ⟨by repeat (first | (with_reducible first | exact HB.out | apply below_alloc | apply pw_below_drewN | apply below_drew1) | exact HB.out)⟩⟩
  case round =>
    clear H'
    try clear c1
    try clear p2
    obtain ⟨x7_1, rfl, HA, HK1, HB⟩ := hrel
    cases gk with
    | zero => exact absurd HA.out (by simp [keepsakeref12_Byte.l0])
    | succ k1 =>
      have H := HA.out
      clear HA
      simp only [keepsakeref12_Byte.l0] at H
      by_cases c4 : x7_1 ≥ 0
      · rw [if_pos c4] at H
        have c4b0 : decide (0 ≤ x7_1) = true := decide_eq_true c4
        clear c4
        by_cases c5 : 0 ≤ x7_1
        · rw [if_pos c5] at H
          have c5b0 := eq_true c5
          have c5b1 : decide (0 ≤ x7_1) = true := decide_eq_true c5
          clear c5
          by_cases c6 : x7_1 ≤ (l1.length : Int)
          · rw [if_pos c6] at H
            have c6b0 := eq_true c6
            have c6b1 : decide (x7_1 ≤ (l1.length : Int)) = true := decide_eq_true c6
            clear c6
            obtain ⟨y115, hy115⟩ : ∃ y_ : List (S34), y_ = (l1.take (x7_1 : Int).toNat) := ⟨_, rfl⟩
            replace H : ((keepsakeref12_Locked.f k1 y115).bind fun t119 => (if x7_1 < (l1.length : Int) then (if ((rd_T34 l1 x7_1).f0) = 0 then (if (l0.length : Int) = 0 then (none) else (if ((mx 0 ((rd_T34 l1 x7_1).f1)) % (l0.length : Int)) = a2 then (if t119 = true then (keepsakeref12_Byte.l0 k1 l0 l1 a2 (wrap64 (x7_1 - 1))) else (some ((rd_T34 l1 x7_1).f2))) else (keepsakeref12_Byte.l0 k1 l0 l1 a2 (wrap64 (x7_1 - 1))))) else (keepsakeref12_Byte.l0 k1 l0 l1 a2 (wrap64 (x7_1 - 1)))) else (none))) = some r := by first | (rw [hy115]; with_reducible exact H) | (have H2_ := (Option.bind_some _ _).symm.trans H; rw [hy115]; with_reducible exact H2_) | (have H2_ := (Option.bind_some _ _).symm.trans H; with_reducible exact H2_) | with_reducible exact H | (rw [hy115]; exact H) | exact H
            have Ny115 := Aside0.mk hy115
            clear hy115
            replace H := Option.bind_eq_some_iff.mp H
            obtain ⟨t119, A70, H⟩ := H
            replace H : (if x7_1 < (l1.length : Int) then (if ((rd_T34 l1 x7_1).f0) = 0 then (if (l0.length : Int) = 0 then (none) else (if ((mx 0 ((rd_T34 l1 x7_1).f1)) % (l0.length : Int)) = a2 then (if t119 = true then (keepsakeref12_Byte.l0 k1 l0 l1 a2 (wrap64 (x7_1 - 1))) else (some ((rd_T34 l1 x7_1).f2))) else (keepsakeref12_Byte.l0 k1 l0 l1 a2 (wrap64 (x7_1 - 1))))) else (keepsakeref12_Byte.l0 k1 l0 l1 a2 (wrap64 (x7_1 - 1)))) else (none)) = some r := H
            have A7 := Aside0.mk A70
            clear A70
            by_cases c8 : x7_1 < (l1.length : Int)
            · rw [if_pos c8] at H
              have c8b0 : decide (x7_1 < (l1.length : Int)) = true := decide_eq_true c8
              clear c8
              by_cases c9 : ((rd_T34 l1 x7_1).f0) = 0
              · rw [if_pos c9] at H
                have c9b0 : (((rd_T34 l1 x7_1).f0) == 0) = true := beq_iff_eq.mpr c9
                have c9b1 : (((rd_T34 l1 x7_1).f0) != 0) = false := bne_eq_false_iff_eq.mpr c9
                clear c9
                obtain ⟨ji10, hji10⟩ : ∃ j_ : Int, (mx 0 ((rd_T34 l1 x7_1).f1)) = j_ := ⟨_, rfl⟩
                replace H : (if (l0.length : Int) = 0 then (none) else (if ((ji10) % (l0.length : Int)) = a2 then (if t119 = true then (keepsakeref12_Byte.l0 k1 l0 l1 a2 (wrap64 (x7_1 - 1))) else (some ((rd_T34 l1 x7_1).f2))) else (keepsakeref12_Byte.l0 k1 l0 l1 a2 (wrap64 (x7_1 - 1))))) = some r := by first | (rw [hji10] at H; exact H) | (simp only [hji10] at H ⊢; exact H)
                (try rw [hji10] at A7)
                have hji10_ : (if 0 < ((rd_T34 l1 x7_1).f1) then ((rd_T34 l1 x7_1).f1) else 0) = ji10 := hji10
                by_cases c11 : (l0.length : Int) = 0
                · rw [if_pos c11] at H
                  exact absurd H (by simp)
                · rw [if_neg c11] at H
                  have c11b0 : ((l0.length : Int) == 0) = false := beq_eq_false_iff_ne.mpr c11
                  have c11b1 : ((l0.length : Int) != 0) = true := bne_iff_ne.mpr c11
                  have c11b2 : ¬ (l0 = []) := fun h_ => c11 (by rw [h_]; rfl)
                  by_cases c12 : ((ji10) % (l0.length : Int)) = a2
                  · rw [if_pos c12] at H
                    have c12b0 : (((ji10) % (l0.length : Int)) == a2) = true := beq_iff_eq.mpr c12
                    have c12b1 : (((ji10) % (l0.length : Int)) != a2) = false := bne_eq_false_iff_eq.mpr c12
                    clear c12
                    by_cases c13 : t119 = true
                    · subst c13
                      have H1 : (keepsakeref12_Byte.l0 k1 l0 l1 a2 (wrap64 (x7_1 - 1))) = some r := by rw [if_pos rfl] at H; exact H
                      clear H
                      have H := H1
                      clear H1
                      have H' := Aside0.mk H
                      clear H
                      have q14 : (x7_1 : Int) ≤ ((l1.length : Int) : Int) := of_decide_eq_true (by first | (with_reducible assumption) | assumption)
                      obtain ⟨i014, hi014, _, hsz14, _⟩ := info_parts info34
                      have hroom14 : l1.length ≤ c1 := HC1.out
                      have hC14 : Kd.C k34 _ A1 l1.length l1 := HR1.out
                      have hcut14 := cut_to (P := Try.prog) 23 34 .i64 Try.underlying23 hi014 A1 l1.length c1 x7_1 (of_decide_eq_true (by first | (with_reducible assumption) | assumption)) q14 hroom14
                      have hr14 := Kd.C_take (m := (x7_1 : Int).toNat) hC14 (by omega)
                      have hy14 : y115.length = (x7_1 : Int).toNat := (by rw [Ny115.out, List.length_take]; omega)
                      rw [← Ny115.out] at hr14
                      rw [← hy14] at hcut14
                      have HR118 := Aside0.mk hr14
                      have HC118 := Aside0.mk (show y115.length ≤ c1 from by omega)
                      clear hr14 hC14 hroom14 hi014 hsz14
                      have KY14 := Aside0.mk hy14
                      clear hy14
                      replace q14 := eq_true q14
                      go_wp2_with (first | ((with_reducible refine gate_callee (f := 11) rfl ?_); refine goesL_ (some 19) rfl rfl Try.func11 (by kernel_rfl) rfl #[.slice A1 y115.length c1] rfl (by (try simp only [List.map_toArray, List.map_cons, List.map_nil]); first | done | rfl | (simp only [List.length_drop, List.length_take]; rfl)) ?_; (with_reducible refine (keepsakeref12_Locked.calls k1 _ _ y115 true _ ?side1 ?side2 A7.out).mono ?_); (case side1 => repeat (first | exact (Kd.C_below HR118.out HB.out) | (with_reducible refine Kd.C_alloc ?_ _) | (with_reducible refine Kd.C_drewN ?_ _) | (with_reducible refine Kd.C_drew ?_))); (case side2 => exact HC118.out); rintro e w' ⟨rfl, ⟨nd, rfl⟩⟩; refine ⟨_, rfl, ?_⟩; have p120 : 0 ≤ (x7_1 : Int) := of_decide_eq_true (by first | (with_reducible assumption) | assumption); have q120 : x7_1 < (l1.length : Int) := of_decide_eq_true (by first | (with_reducible assumption) | assumption); obtain ⟨ad120, e120, hx120_0, hx120_1, hx120_2⟩ := at_T34 HR1.out x7_1 p120 q120; cases e120; replace hx120_0 := (HB.out.cell (World.block_lt_of_cell? w _ hx120_0)).trans hx120_0; replace hx120_1 := (HB.out.cell (World.block_lt_of_cell? w _ hx120_1)).trans hx120_1; replace hx120_2 := (HB.out.cell (World.block_lt_of_cell? w _ hx120_2)).trans hx120_2; replace p120 := eq_true p120; replace q120 := eq_true q120; have p121 : 0 ≤ (x7_1 : Int) := of_decide_eq_true (by first | (with_reducible assumption) | assumption); have q121 : x7_1 < (l1.length : Int) := of_decide_eq_true (by first | (with_reducible assumption) | assumption); obtain ⟨ad121, e121, hx121_0, hx121_1, hx121_2⟩ := at_T34 HR1.out x7_1 p121 q121; obtain rfl : ad120 = ad121 := (by injection e121); replace hx121_0 := (HB.out.cell (World.block_lt_of_cell? w _ hx121_0)).trans hx121_0; replace hx121_1 := (HB.out.cell (World.block_lt_of_cell? w _ hx121_1)).trans hx121_1; replace hx121_2 := (HB.out.cell (World.block_lt_of_cell? w _ hx121_2)).trans hx121_2; replace p121 := eq_true p121; replace q121 := eq_true q121))
                      go_roundg k1
                      case measure => have := HK1.out; omega
                      case rel => exact ⟨(wrap64 (x7_1 - 1)), (by first | rfl | (simp; done) | (simp [*]; done) | (simp; omega)), H', ⟨by have := HK1.out; omega⟩, ⟨by repeat (first | (with_reducible first | exact HB.out | apply below_alloc | apply pw_below_drewN | apply below_drew1) | exact HB.out)⟩⟩
                    · replace c13 := Bool.eq_false_iff.mpr c13
                      subst c13
                      have H1 : (some ((rd_T34 l1 x7_1).f2)) = some r := by rw [if_neg (show ¬ (false = true) by decide)] at H; exact H
                      clear H
                      have H := H1
                      clear H1
                      obtain rfl := Option.some.inj H
                      have q15 : (x7_1 : Int) ≤ ((l1.length : Int) : Int) := of_decide_eq_true (by first | (with_reducible assumption) | assumption)
                      obtain ⟨i015, hi015, _, hsz15, _⟩ := info_parts info34
                      have hroom15 : l1.length ≤ c1 := HC1.out
                      have hC15 : Kd.C k34 _ A1 l1.length l1 := HR1.out
                      have hcut15 := cut_to (P := Try.prog) 23 34 .i64 Try.underlying23 hi015 A1 l1.length c1 x7_1 (of_decide_eq_true (by first | (with_reducible assumption) | assumption)) q15 hroom15
                      have hr15 := Kd.C_take (m := (x7_1 : Int).toNat) hC15 (by omega)
                      have hy15 : y115.length = (x7_1 : Int).toNat := (by rw [Ny115.out, List.length_take]; omega)
                      rw [← Ny115.out] at hr15
                      rw [← hy15] at hcut15
                      have HR118 := Aside0.mk hr15
                      have HC118 := Aside0.mk (show y115.length ≤ c1 from by omega)
                      clear hr15 hC15 hroom15 hi015 hsz15
                      have KY15 := Aside0.mk hy15
                      clear hy15
                      replace q15 := eq_true q15
                      go_wp2_with (first | ((with_reducible refine gate_callee (f := 11) rfl ?_); refine goesL_ (some 19) rfl rfl Try.func11 (by kernel_rfl) rfl #[.slice A1 y115.length c1] rfl (by (try simp only [List.map_toArray, List.map_cons, List.map_nil]); first | done | rfl | (simp only [List.length_drop, List.length_take]; rfl)) ?_; (with_reducible refine (keepsakeref12_Locked.calls k1 _ _ y115 false _ ?side1 ?side2 A7.out).mono ?_); (case side1 => repeat (first | exact (Kd.C_below HR118.out HB.out) | (with_reducible refine Kd.C_alloc ?_ _) | (with_reducible refine Kd.C_drewN ?_ _) | (with_reducible refine Kd.C_drew ?_))); (case side2 => exact HC118.out); rintro e w' ⟨rfl, ⟨nd, rfl⟩⟩; refine ⟨_, rfl, ?_⟩; have p120 : 0 ≤ (x7_1 : Int) := of_decide_eq_true (by first | (with_reducible assumption) | assumption); have q120 : x7_1 < (l1.length : Int) := of_decide_eq_true (by first | (with_reducible assumption) | assumption); obtain ⟨ad120, e120, hx120_0, hx120_1, hx120_2⟩ := at_T34 HR1.out x7_1 p120 q120; cases e120; replace hx120_0 := (HB.out.cell (World.block_lt_of_cell? w _ hx120_0)).trans hx120_0; replace hx120_1 := (HB.out.cell (World.block_lt_of_cell? w _ hx120_1)).trans hx120_1; replace hx120_2 := (HB.out.cell (World.block_lt_of_cell? w _ hx120_2)).trans hx120_2; replace p120 := eq_true p120; replace q120 := eq_true q120; have p121 : 0 ≤ (x7_1 : Int) := of_decide_eq_true (by first | (with_reducible assumption) | assumption); have q121 : x7_1 < (l1.length : Int) := of_decide_eq_true (by first | (with_reducible assumption) | assumption); obtain ⟨ad121, e121, hx121_0, hx121_1, hx121_2⟩ := at_T34 HR1.out x7_1 p121 q121; obtain rfl : ad120 = ad121 := (by injection e121); replace hx121_0 := (HB.out.cell (World.block_lt_of_cell? w _ hx121_0)).trans hx121_0; replace hx121_1 := (HB.out.cell (World.block_lt_of_cell? w _ hx121_1)).trans hx121_1; replace hx121_2 := (HB.out.cell (World.block_lt_of_cell? w _ hx121_2)).trans hx121_2; replace p121 := eq_true p121; replace q121 := eq_true q121; have p122 : 0 ≤ (x7_1 : Int) := of_decide_eq_true (by first | (with_reducible assumption) | assumption); have q122 : x7_1 < (l1.length : Int) := of_decide_eq_true (by first | (with_reducible assumption) | assumption); obtain ⟨ad122, e122, hx122_0, hx122_1, hx122_2⟩ := at_T34 HR1.out x7_1 p122 q122; obtain rfl : ad120 = ad122 := (by injection e122); replace hx122_0 := (HB.out.cell (World.block_lt_of_cell? w _ hx122_0)).trans hx122_0; replace hx122_1 := (HB.out.cell (World.block_lt_of_cell? w _ hx122_1)).trans hx122_1; replace hx122_2 := (HB.out.cell (World.block_lt_of_cell? w _ hx122_2)).trans hx122_2; replace p122 := eq_true p122; replace q122 := eq_true q122))
                      go_ret
                      exact ⟨by first | rfl | (simp [errW_none, errW_some] <;> rfl) | (simp only [← hji10]; first | rfl | (simp [errW_none, errW_some] <;> rfl)) | (simp [*, errW_none, errW_some] <;> rfl), by repeat (first | (with_reducible first | exact HB.out | apply below_alloc | apply pw_below_drewN | apply below_drew1) | exact HB.out)⟩
                  · rw [if_neg c12] at H
                    have c12b0 : (((ji10) % (l0.length : Int)) == a2) = false := beq_eq_false_iff_ne.mpr c12
                    have c12b1 : (((ji10) % (l0.length : Int)) != a2) = true := bne_iff_ne.mpr c12
                    have H' := Aside0.mk H
                    clear H
                    have q16 : (x7_1 : Int) ≤ ((l1.length : Int) : Int) := of_decide_eq_true (by first | (with_reducible assumption) | assumption)
                    obtain ⟨i016, hi016, _, hsz16, _⟩ := info_parts info34
                    have hroom16 : l1.length ≤ c1 := HC1.out
                    have hC16 : Kd.C k34 _ A1 l1.length l1 := HR1.out
                    have hcut16 := cut_to (P := Try.prog) 23 34 .i64 Try.underlying23 hi016 A1 l1.length c1 x7_1 (of_decide_eq_true (by first | (with_reducible assumption) | assumption)) q16 hroom16
                    have hr16 := Kd.C_take (m := (x7_1 : Int).toNat) hC16 (by omega)
                    have hy16 : y115.length = (x7_1 : Int).toNat := (by rw [Ny115.out, List.length_take]; omega)
                    rw [← Ny115.out] at hr16
                    rw [← hy16] at hcut16
                    have HR118 := Aside0.mk hr16
                    have HC118 := Aside0.mk (show y115.length ≤ c1 from by omega)
                    clear hr16 hC16 hroom16 hi016 hsz16
                    have KY16 := Aside0.mk hy16
                    clear hy16
                    replace q16 := eq_true q16
                    go_wp2_with (first | ((with_reducible refine gate_callee (f := 11) rfl ?_); refine goesL_ (some 19) rfl rfl Try.func11 (by kernel_rfl) rfl #[.slice A1 y115.length c1] rfl (by (try simp only [List.map_toArray, List.map_cons, List.map_nil]); first | done | rfl | (simp only [List.length_drop, List.length_take]; rfl)) ?_; (with_reducible refine (keepsakeref12_Locked.calls k1 _ _ y115 t119 _ ?side1 ?side2 A7.out).mono ?_); (case side1 => repeat (first | exact (Kd.C_below HR118.out HB.out) | (with_reducible refine Kd.C_alloc ?_ _) | (with_reducible refine Kd.C_drewN ?_ _) | (with_reducible refine Kd.C_drew ?_))); (case side2 => exact HC118.out); rintro e w' ⟨rfl, ⟨nd, rfl⟩⟩; refine ⟨_, rfl, ?_⟩; have p120 : 0 ≤ (x7_1 : Int) := of_decide_eq_true (by first | (with_reducible assumption) | assumption); have q120 : x7_1 < (l1.length : Int) := of_decide_eq_true (by first | (with_reducible assumption) | assumption); obtain ⟨ad120, e120, hx120_0, hx120_1, hx120_2⟩ := at_T34 HR1.out x7_1 p120 q120; cases e120; replace hx120_0 := (HB.out.cell (World.block_lt_of_cell? w _ hx120_0)).trans hx120_0; replace hx120_1 := (HB.out.cell (World.block_lt_of_cell? w _ hx120_1)).trans hx120_1; replace hx120_2 := (HB.out.cell (World.block_lt_of_cell? w _ hx120_2)).trans hx120_2; replace p120 := eq_true p120; replace q120 := eq_true q120; have p121 : 0 ≤ (x7_1 : Int) := of_decide_eq_true (by first | (with_reducible assumption) | assumption); have q121 : x7_1 < (l1.length : Int) := of_decide_eq_true (by first | (with_reducible assumption) | assumption); obtain ⟨ad121, e121, hx121_0, hx121_1, hx121_2⟩ := at_T34 HR1.out x7_1 p121 q121; obtain rfl : ad120 = ad121 := (by injection e121); replace hx121_0 := (HB.out.cell (World.block_lt_of_cell? w _ hx121_0)).trans hx121_0; replace hx121_1 := (HB.out.cell (World.block_lt_of_cell? w _ hx121_1)).trans hx121_1; replace hx121_2 := (HB.out.cell (World.block_lt_of_cell? w _ hx121_2)).trans hx121_2; replace p121 := eq_true p121; replace q121 := eq_true q121))
                    go_roundg k1
                    case measure => have := HK1.out; omega
                    case rel => exact ⟨(wrap64 (x7_1 - 1)), (by first | rfl | (simp; done) | (simp [*]; done) | (simp; omega)), H', ⟨by have := HK1.out; omega⟩, ⟨by repeat (first | (with_reducible first | exact HB.out | apply below_alloc | apply pw_below_drewN | apply below_drew1) | exact HB.out)⟩⟩
              · rw [if_neg c9] at H
                have c9b0 : (((rd_T34 l1 x7_1).f0) == 0) = false := beq_eq_false_iff_ne.mpr c9
                have c9b1 : (((rd_T34 l1 x7_1).f0) != 0) = true := bne_iff_ne.mpr c9
                have H' := Aside0.mk H
                clear H
                have q17 : (x7_1 : Int) ≤ ((l1.length : Int) : Int) := of_decide_eq_true (by first | (with_reducible assumption) | assumption)
                obtain ⟨i017, hi017, _, hsz17, _⟩ := info_parts info34
                have hroom17 : l1.length ≤ c1 := HC1.out
                have hC17 : Kd.C k34 _ A1 l1.length l1 := HR1.out
                have hcut17 := cut_to (P := Try.prog) 23 34 .i64 Try.underlying23 hi017 A1 l1.length c1 x7_1 (of_decide_eq_true (by first | (with_reducible assumption) | assumption)) q17 hroom17
                have hr17 := Kd.C_take (m := (x7_1 : Int).toNat) hC17 (by omega)
                have hy17 : y115.length = (x7_1 : Int).toNat := (by rw [Ny115.out, List.length_take]; omega)
                rw [← Ny115.out] at hr17
                rw [← hy17] at hcut17
                have HR118 := Aside0.mk hr17
                have HC118 := Aside0.mk (show y115.length ≤ c1 from by omega)
                clear hr17 hC17 hroom17 hi017 hsz17
                have KY17 := Aside0.mk hy17
                clear hy17
                replace q17 := eq_true q17
                go_wp2_with (first | ((with_reducible refine gate_callee (f := 11) rfl ?_); refine goesL_ (some 19) rfl rfl Try.func11 (by kernel_rfl) rfl #[.slice A1 y115.length c1] rfl (by (try simp only [List.map_toArray, List.map_cons, List.map_nil]); first | done | rfl | (simp only [List.length_drop, List.length_take]; rfl)) ?_; (with_reducible refine (keepsakeref12_Locked.calls k1 _ _ y115 t119 _ ?side1 ?side2 A7.out).mono ?_); (case side1 => repeat (first | exact (Kd.C_below HR118.out HB.out) | (with_reducible refine Kd.C_alloc ?_ _) | (with_reducible refine Kd.C_drewN ?_ _) | (with_reducible refine Kd.C_drew ?_))); (case side2 => exact HC118.out); rintro e w' ⟨rfl, ⟨nd, rfl⟩⟩; refine ⟨_, rfl, ?_⟩; have p120 : 0 ≤ (x7_1 : Int) := of_decide_eq_true (by first | (with_reducible assumption) | assumption); have q120 : x7_1 < (l1.length : Int) := of_decide_eq_true (by first | (with_reducible assumption) | assumption); obtain ⟨ad120, e120, hx120_0, hx120_1, hx120_2⟩ := at_T34 HR1.out x7_1 p120 q120; cases e120; replace hx120_0 := (HB.out.cell (World.block_lt_of_cell? w _ hx120_0)).trans hx120_0; replace hx120_1 := (HB.out.cell (World.block_lt_of_cell? w _ hx120_1)).trans hx120_1; replace hx120_2 := (HB.out.cell (World.block_lt_of_cell? w _ hx120_2)).trans hx120_2; replace p120 := eq_true p120; replace q120 := eq_true q120))
                go_roundg k1
                case measure => have := HK1.out; omega
                case rel => exact ⟨(wrap64 (x7_1 - 1)), (by first | rfl | (simp; done) | (simp [*]; done) | (simp; omega)), H', ⟨by have := HK1.out; omega⟩, ⟨by repeat (first | (with_reducible first | exact HB.out | apply below_alloc | apply pw_below_drewN | apply below_drew1) | exact HB.out)⟩⟩
            · rw [if_neg c8] at H
              exact absurd H (by simp)
          · rw [if_neg c6] at H
            exact absurd H (by simp)
        · rw [if_neg c5] at H
          exact absurd H (by simp)
      · rw [if_neg c4] at H
        have c4b0 : decide (0 ≤ x7_1) = false := decide_eq_false c4
        clear c4
        by_cases c18 : 0 ≤ a2
        · rw [if_pos c18] at H
          have c18b0 : decide (0 ≤ a2) = true := decide_eq_true c18
          clear c18
          by_cases c19 : a2 < (l0.length : Int)
          · rw [if_pos c19] at H
            have c19b0 : decide (a2 < (l0.length : Int)) = true := decide_eq_true c19
            clear c19
            obtain rfl := Option.some.inj H
            have p123 : 0 ≤ (a2 : Int) := of_decide_eq_true (by first | (with_reducible assumption) | assumption)
            have q123 : a2 < (l0.length : Int) := of_decide_eq_true (by first | (with_reducible assumption) | assumption)
            obtain ⟨ad123, e123, hx123_0⟩ := Kd.at_int HR0.out a2 p123 q123
            cases e123
            replace hx123_0 := (HB.out.cell (World.block_lt_of_cell? w _ hx123_0)).trans hx123_0
            replace p123 := eq_true p123
            replace q123 := eq_true q123
            go_wp2
            go_ret
            exact ⟨by first | rfl | (simp [errW_none, errW_some] <;> rfl) | (simp [*, errW_none, errW_some] <;> rfl), by repeat (first | (with_reducible first | exact HB.out | apply below_alloc | apply pw_below_drewN | apply below_drew1) | exact HB.out)⟩
          · rw [if_neg c19] at H
            exact absurd H (by simp)
        · rw [if_neg c18] at H
          exact absurd H (by simp)

/-! ### keepsakeref01_Same: function 17 -/
def keepsakeref01_Same.l0 : Nat → List Int → List Int → Int → Option (Bool)
  | 0, _, _, _ => none
  | k + 1, x0, x1, x5 => if x5 < (x0.length : Int) then (if 0 ≤ x5 then (if x5 < (x1.length : Int) then (if (rd x0 x5) = (rd x1 x5) then (keepsakeref01_Same.l0 k x0 x1 (wrap64 (x5 + 1))) else (some false)) else (none)) else (none)) else (some true)
def keepsakeref01_Same.f (k : Nat) (l0 : List Int) (l1 : List Int) : Option (Bool) := if (l0.length : Int) = (l1.length : Int) then (keepsakeref01_Same.l0 k l0 l1 0) else (some false)
theorem keepsakeref01_Same.mono_l : ∀ k, (∀ y0 y1 y2, LeO (keepsakeref01_Same.l0 k y0 y1 y2) (keepsakeref01_Same.l0 (k + 1) y0 y1 y2))
  | 0 => fun _ _ _ r h => by simp [keepsakeref01_Same.l0] at h
  | k + 1 => by
    have ih0 := keepsakeref01_Same.mono_l k
    · intro y0 y1 y2
      unfold keepsakeref01_Same.l0
      repeat' first
      | (with_reducible exact ih0 _ _ _)
      | (with_reducible exact LeO.refl _)
      | (with_reducible exact LeO.none _)
      | (with_reducible refine LeO.ite ?_ ?_)
      | (with_reducible refine LeO.bind ?_ (fun _ => ?_))
      | exact ih0 _ _ _
      | exact LeO.none _
      | refine LeO.ite ?_ ?_
      | refine LeO.bind ?_ (fun _ => ?_)
theorem keepsakeref01_Same.mono : ∀ a0 a1 k, LeO (keepsakeref01_Same.f k a0 a1) (keepsakeref01_Same.f (k + 1) a0 a1) := by
  intro a0 a1 k
  have ih0 := keepsakeref01_Same.mono_l k
  unfold keepsakeref01_Same.f
  repeat' first
      | (with_reducible exact ih0 _ _ _)
      | (with_reducible exact LeO.refl _)
      | (with_reducible exact LeO.none _)
      | (with_reducible refine LeO.ite ?_ ?_)
      | (with_reducible refine LeO.bind ?_ (fun _ => ?_))
      | exact ih0 _ _ _
      | exact LeO.none _
      | refine LeO.ite ?_ ?_
      | refine LeO.bind ?_ (fun _ => ?_)
set_option maxHeartbeats 8000000 in
set_option maxRecDepth 100000 in
theorem keepsakeref01_Same.calls (k : Nat) (A0 : Option Addr) (c0 : Nat) (l0 : List Int) (A1 : Option Addr) (c1 : Nat) (l1 : List Int) (r : Bool) (w : World) (hr0 : Kd.C (Kd.int .u8) w A0 l0.length l0) (hc0 : l0.length ≤ c0) (hr1 : Kd.C (Kd.int .u8) w A1 l1.length l1) (hc1 : l1.length ≤ c1) (h : keepsakeref01_Same.f k l0 l1 = some r) :
    Calls Try.prog 17 #[.slice A0 l0.length c0, .slice A1 l1.length c1] w fun e w' => e = .returned (.bool r) ∧ Drawn0 w w' := by
  have HR0 := Aside0.mk hr0
  have HC0 := Aside0.mk hc0
  clear hr0 hc0
  have HR1 := Aside0.mk hr1
  have HC1 := Aside0.mk hc1
  clear hr1 hc1
  have H : (if (l0.length : Int) = (l1.length : Int) then (keepsakeref01_Same.l0 k l0 l1 0) else (some false)) = some r := h
  clear h
  by_cases c3 : (l0.length : Int) = (l1.length : Int)
  · rw [if_pos c3] at H
    have c3b0 : ((l0.length : Int) == (l1.length : Int)) = true := beq_iff_eq.mpr c3
    have c3b1 : ((l0.length : Int) != (l1.length : Int)) = false := bne_eq_false_iff_eq.mpr c3
    have c3b2 : (l0.length == l1.length) = true := by first | simpa using c3 | (simp at c3 ⊢; omega)
    clear c3
    have H' := Aside0.mk H
    clear H
    go_enter Try.func17, Try.ntmps17
    go_wp2
    repeat (go_quiet (fail); try go_wp2)
    go_loopg [5] k (fun kq v5 w' => ∃ (x5_1 : Int), v5 = .int .i64 x5_1 ∧ Aside0 (keepsakeref01_Same.l0 kq l0 l1 x5_1 = some r) ∧ Aside0 (kq ≤ k) ∧ Drawn0 w w')
    case atStart => exact ⟨(0), (by first | rfl | (simp; done) | (simp [*]; done) | (simp; omega)), H', ⟨Nat.le_refl _⟩, by repeat (first | exact Drawn0.refl _ | apply Drawn0.step)⟩
    case round =>
      clear H'
      try clear c1
      try clear p2
      try clear c3
      try clear c3b0
      try clear c3b1
      try clear c3b2
      obtain ⟨x5_1, rfl, HA, HK1, ⟨m1, rfl⟩⟩ := hrel
      cases gk with
      | zero => exact absurd HA.out (by simp [keepsakeref01_Same.l0])
      | succ k1 =>
        have H := HA.out
        clear HA
        simp only [keepsakeref01_Same.l0] at H
        by_cases c4 : x5_1 < (l0.length : Int)
        · rw [if_pos c4] at H
          have c4b0 : decide (x5_1 < (l0.length : Int)) = true := decide_eq_true c4
          clear c4
          by_cases c5 : 0 ≤ x5_1
          · rw [if_pos c5] at H
            have c5b0 : decide (0 ≤ x5_1) = true := decide_eq_true c5
            clear c5
            by_cases c6 : x5_1 < (l1.length : Int)
            · rw [if_pos c6] at H
              have c6b0 : decide (x5_1 < (l1.length : Int)) = true := decide_eq_true c6
              clear c6
              by_cases c7 : (rd l0 x5_1) = (rd l1 x5_1)
              · rw [if_pos c7] at H
                have c7b0 : ((rd l0 x5_1) == (rd l1 x5_1)) = true := beq_iff_eq.mpr c7
                have c7b1 : ((rd l0 x5_1) != (rd l1 x5_1)) = false := bne_eq_false_iff_eq.mpr c7
                clear c7
                have H' := Aside0.mk H
                clear H
                have p124 : 0 ≤ (x5_1 : Int) := of_decide_eq_true (by first | (with_reducible assumption) | assumption)
                have q124 : x5_1 < (l0.length : Int) := of_decide_eq_true (by first | (with_reducible assumption) | assumption)
                obtain ⟨ad124, e124, hx124_0⟩ := Kd.at_int HR0.out x5_1 p124 q124
                cases e124
                replace p124 := eq_true p124
                replace q124 := eq_true q124
                have p125 : 0 ≤ (x5_1 : Int) := of_decide_eq_true (by first | (with_reducible assumption) | assumption)
                have q125 : x5_1 < (l1.length : Int) := of_decide_eq_true (by first | (with_reducible assumption) | assumption)
                obtain ⟨ad125, e125, hx125_0⟩ := Kd.at_int HR1.out x5_1 p125 q125
                cases e125
                replace p125 := eq_true p125
                replace q125 := eq_true q125
                go_wp2
                repeat (go_quiet (fail); try go_wp2)
                go_roundg k1
                case measure => have := HK1.out; omega
                case rel => exact ⟨(wrap64 (x5_1 + 1)), (by first | rfl | (simp; done) | (simp [*]; done) | (simp; omega)), H', ⟨by have := HK1.out; omega⟩, by repeat (first | exact Drawn0.refl _ | apply Drawn0.step)⟩
              · rw [if_neg c7] at H
                have c7b0 : ((rd l0 x5_1) == (rd l1 x5_1)) = false := beq_eq_false_iff_ne.mpr c7
                have c7b1 : ((rd l0 x5_1) != (rd l1 x5_1)) = true := bne_iff_ne.mpr c7
                obtain rfl := Option.some.inj H
                have p124 : 0 ≤ (x5_1 : Int) := of_decide_eq_true (by first | (with_reducible assumption) | assumption)
                have q124 : x5_1 < (l0.length : Int) := of_decide_eq_true (by first | (with_reducible assumption) | assumption)
                obtain ⟨ad124, e124, hx124_0⟩ := Kd.at_int HR0.out x5_1 p124 q124
                cases e124
                replace p124 := eq_true p124
                replace q124 := eq_true q124
                have p125 : 0 ≤ (x5_1 : Int) := of_decide_eq_true (by first | (with_reducible assumption) | assumption)
                have q125 : x5_1 < (l1.length : Int) := of_decide_eq_true (by first | (with_reducible assumption) | assumption)
                obtain ⟨ad125, e125, hx125_0⟩ := Kd.at_int HR1.out x5_1 p125 q125
                cases e125
                replace p125 := eq_true p125
                replace q125 := eq_true q125
                go_wp2
                repeat (go_quiet (fail); try go_wp2)
                go_ret
                exact ⟨by first | rfl | (simp; done) | (simp [*]; done), by repeat (first | exact Drawn0.refl _ | apply Drawn0.step)⟩
            · rw [if_neg c6] at H
              exact absurd H (by simp)
          · rw [if_neg c5] at H
            exact absurd H (by simp)
        · rw [if_neg c4] at H
          have c4b0 : decide (x5_1 < (l0.length : Int)) = false := decide_eq_false c4
          clear c4
          obtain rfl := Option.some.inj H
          go_wp2
          repeat (go_quiet (fail); try go_wp2)
          go_ret
          exact ⟨by first | rfl | (simp; done) | (simp [*]; done), by repeat (first | exact Drawn0.refl _ | apply Drawn0.step)⟩
  · rw [if_neg c3] at H
    have c3b0 : ((l0.length : Int) == (l1.length : Int)) = false := beq_eq_false_iff_ne.mpr c3
    have c3b1 : ((l0.length : Int) != (l1.length : Int)) = true := bne_iff_ne.mpr c3
    have c3b2 : (l0.length == l1.length) = false := by first | simpa using c3 | (simp at c3 ⊢; omega)
    obtain rfl := Option.some.inj H
    go_enter Try.func17, Try.ntmps17
    go_wp2
    repeat (go_quiet (fail); try go_wp2)
    go_ret
    exact ⟨by first | rfl | (simp; done) | (simp [*]; done), by repeat (first | exact Drawn0.refl _ | apply Drawn0.step)⟩

-- NOT PRINTED: function 18 (sram_Chip_Bytes)

end Go.Proofs.Ytehjfcfnnpjedaa.All
