-- written by a program of mine (xprint_patch.py over the kit's print)
import Derived.Test.YtcnciialpehjjaaAx0
import Derived.Test.YtcnciialpehjjaaAx2
import Derived.Test.YtcnciialpehjjaaAx3
import Derived.Test.YtcnciialpehjjaaAx4
namespace Go.Proofs.Ytcnciialpehjjaa.All
open Go.Proofs.Ytcnciialpehjjaa.Given
open Go.RowKit Go.Proofs.YtcnciialpehjjaaW.PrintWords Go.Proofs.YtcnciialpehjjaaW.PrintLast Go.Proofs.YtcnciialpehjjaaW.PrintMore
attribute [local go_sem] max2_int min2_int max_two min_two max_three min_three max_four min_four   -- for this text's walks alone
set_option linter.unusedVariables false
set_option linter.unusedSimpArgs false

/-! ### keepsakeref01_Sum: function 12 -/
mutual
def keepsakeref01_Sum.l0 : Nat → List Bool → Int → Option (Int)
  | 0, _, _ => none
  | k + 1, x3, x4 => if x4 < 32 then (if 0 ≤ x4 then (if x4 < (x3.length : Int) then (keepsakeref01_Sum.l0 k (x3.set (x4 : Int).toNat (!(rdOf false x3 x4))) (wrap64 (x4 + 1))) else (none)) else (none)) else ((keepsakeref01_left.f k x3).bind fun t133 => (keepsakeref01_Sum.l1 k t133 0))
def keepsakeref01_Sum.l1 : Nat → List Bool → Int → Option (Int)
  | 0, _, _ => none
  | k + 1, x5, x6 => if x6 < 32 then (if 0 ≤ x6 then (if x6 < (x5.length : Int) then (keepsakeref01_Sum.l1 k (x5.set (x6 : Int).toNat (!(rdOf false x5 x6))) (wrap64 (x6 + 1))) else (none)) else (none)) else ((keepsakeref01_word.f k x5).bind fun t138 => (some t138))
end
def keepsakeref01_Sum.f (k : Nat) (l0 : List Int) : Option (Int) := (keepsakeref01_Bits.f k l0).bind fun t125 => (if t125.length + 32 < 140737488355328 then (keepsakeref01_Sum.l0 k (t125 ++ List.replicate 32 false) 0) else (none))
theorem keepsakeref01_Sum.mono_l : ∀ k, (∀ y0 y1, LeO (keepsakeref01_Sum.l0 k y0 y1) (keepsakeref01_Sum.l0 (k + 1) y0 y1)) ∧ (∀ y0 y1, LeO (keepsakeref01_Sum.l1 k y0 y1) (keepsakeref01_Sum.l1 (k + 1) y0 y1))
  | 0 => ⟨fun _ _ r h => by simp [keepsakeref01_Sum.l0] at h, fun _ _ r h => by simp [keepsakeref01_Sum.l1] at h⟩
  | k + 1 => by
    obtain ⟨ih0, ih1⟩ := keepsakeref01_Sum.mono_l k
    refine ⟨?_, ?_⟩
    · intro y0 y1
      unfold keepsakeref01_Sum.l0
      repeat' first
      | (with_reducible exact ih0 _ _)
      | (with_reducible exact ih1 _ _)
      | (with_reducible exact keepsakeref01_Bits.mono _ _)
      | (with_reducible exact keepsakeref01_left.mono _ _)
      | (with_reducible exact keepsakeref01_word.mono _ _)
      | (with_reducible exact LeO.refl _)
      | (with_reducible exact LeO.none _)
      | (with_reducible refine LeO.ite ?_ ?_)
      | (with_reducible refine LeO.bind ?_ (fun _ => ?_))
      | exact ih0 _ _
      | exact ih1 _ _
      | exact keepsakeref01_Bits.mono _ _
      | exact keepsakeref01_left.mono _ _
      | exact keepsakeref01_word.mono _ _
      | exact LeO.none _
      | refine LeO.ite ?_ ?_
      | refine LeO.bind ?_ (fun _ => ?_)
    · intro y0 y1
      unfold keepsakeref01_Sum.l1
      repeat' first
      | (with_reducible exact ih0 _ _)
      | (with_reducible exact ih1 _ _)
      | (with_reducible exact keepsakeref01_Bits.mono _ _)
      | (with_reducible exact keepsakeref01_left.mono _ _)
      | (with_reducible exact keepsakeref01_word.mono _ _)
      | (with_reducible exact LeO.refl _)
      | (with_reducible exact LeO.none _)
      | (with_reducible refine LeO.ite ?_ ?_)
      | (with_reducible refine LeO.bind ?_ (fun _ => ?_))
      | exact ih0 _ _
      | exact ih1 _ _
      | exact keepsakeref01_Bits.mono _ _
      | exact keepsakeref01_left.mono _ _
      | exact keepsakeref01_word.mono _ _
      | exact LeO.none _
      | refine LeO.ite ?_ ?_
      | refine LeO.bind ?_ (fun _ => ?_)
theorem keepsakeref01_Sum.mono : ∀ a0 k, LeO (keepsakeref01_Sum.f k a0) (keepsakeref01_Sum.f (k + 1) a0) := by
  intro a0 k
  obtain ⟨ih0, ih1⟩ := keepsakeref01_Sum.mono_l k
  unfold keepsakeref01_Sum.f
  repeat' first
      | (with_reducible exact ih0 _ _)
      | (with_reducible exact ih1 _ _)
      | (with_reducible exact keepsakeref01_Bits.mono _ _)
      | (with_reducible exact keepsakeref01_left.mono _ _)
      | (with_reducible exact keepsakeref01_word.mono _ _)
      | (with_reducible exact LeO.refl _)
      | (with_reducible exact LeO.none _)
      | (with_reducible refine LeO.ite ?_ ?_)
      | (with_reducible refine LeO.bind ?_ (fun _ => ?_))
      | exact ih0 _ _
      | exact ih1 _ _
      | exact keepsakeref01_Bits.mono _ _
      | exact keepsakeref01_left.mono _ _
      | exact keepsakeref01_word.mono _ _
      | exact LeO.none _
      | refine LeO.ite ?_ ?_
      | refine LeO.bind ?_ (fun _ => ?_)
set_option maxHeartbeats 8000000 in
set_option maxRecDepth 100000 in
theorem keepsakeref01_Sum.calls (k : Nat) (A0 : Option Addr) (c0 : Nat) (l0 : List Int) (r : Int) (w : World) (hr0 : Kd.C (Kd.int .u8) w A0 l0.length l0) (hc0 : l0.length ≤ c0) (h : keepsakeref01_Sum.f k l0 = some r) :
    Calls Try.prog 12 #[.slice A0 l0.length c0] w fun e w' => e = .returned (.int .u32 r) ∧ Below w.heap.size w w' := by
  have HR0 := Aside0.mk hr0
  have HC0 := Aside0.mk hc0
  clear hr0 hc0
  have HB := Aside0.mk (Below.refl w.heap.size w)
  have H : ((keepsakeref01_Bits.f k l0).bind fun t125 => (if t125.length + 32 < 140737488355328 then (keepsakeref01_Sum.l0 k (t125 ++ List.replicate 32 false) 0) else (none))) = some r := h
  clear h
  replace H := Option.bind_eq_some_iff.mp H
  obtain ⟨t125, A20, H⟩ := H
  replace H : (if t125.length + 32 < 140737488355328 then (keepsakeref01_Sum.l0 k (t125 ++ List.replicate 32 false) 0) else (none)) = some r := H
  have A2 := Aside0.mk A20
  clear A20
  by_cases c3 : t125.length + 32 < 140737488355328
  · rw [if_pos c3] at H
    have LMc3 := Aside0.mk c3
    clear c3
    obtain ⟨y128, hy128⟩ : ∃ y_ : List Bool, y_ = (t125 ++ List.replicate 32 false) := ⟨_, rfl⟩
    replace H : (keepsakeref01_Sum.l0 k y128 0) = some r := by first | (rw [hy128]; with_reducible exact H) | (have H2_ := (Option.bind_some _ _).symm.trans H; rw [hy128]; with_reducible exact H2_) | (have H2_ := (Option.bind_some _ _).symm.trans H; with_reducible exact H2_) | with_reducible exact H | (rw [hy128]; exact H) | exact H
    have Ny128 := Aside0.mk hy128
    clear hy128
    have H' := Aside0.mk H
    clear H
    go_enter Try.func12, Try.ntmps12
    go_wp2_with (first | ((with_reducible refine gate_callee (f := 17) rfl ?_); refine goesL_ (some 8) rfl rfl Try.func17 (by kernel_rfl) rfl #[.slice A0 l0.length c0] rfl (by (try simp only [List.map_toArray, List.map_cons, List.map_nil]); first | done | rfl | (simp only [List.length_drop, List.length_take]; rfl)) ?_; (with_reducible refine (keepsakeref01_Bits.calls k _ _ l0 t125 _ ?side1 ?side2 A2.out).mono ?_); (case side1 => repeat (first | exact HR0.out | (with_reducible refine Kd.C_alloc ?_ _) | (with_reducible refine Kd.C_drewN ?_ _) | (with_reducible refine Kd.C_drew ?_))); (case side2 => exact HC0.out); rintro e w4 ⟨v126, rfl, ho0, hb⟩; refine ⟨_, rfl, ?_⟩; have n0_ := Aside0.mk (Kd.R_lower ho0 (below_size (by repeat (first | (with_reducible first | exact HB.out | apply below_alloc | apply pw_below_drewN | apply below_drew1) | exact HB.out)))); have n1_ := Aside0.mk (below_step (by repeat (first | (with_reducible first | exact HB.out | apply below_alloc | apply pw_below_drewN | apply below_drew1) | exact HB.out)) hb); clear HB; have HO127 := n0_; have HB := n1_; clear n0_ n1_; (try clear hb); (try clear hb2); (try clear hk); (try clear hi); (try clear ho0)) | (at_builtin; refine Kd.R_append_zeros Kd.bool (w0 := w) w.heap.size rfl (.tmp 8) (.const (.int .i64 32)) 40 3 4 (.bool false) 1 rfl Try.underlying40 Try.underlying3 info4 rfl (by decide) (by omega) v126 t125 false (32 : Int) (fun _ => True) rfl rfl rfl ?aF ?aO (by omega) ?aB ?aS ?aL ?_; (case aB => exact (by repeat (first | (with_reducible first | exact HB.out | apply below_alloc | apply pw_below_drewN | apply below_drew1) | exact HB.out))); (case aF => exact (fun _ _ => trivial)); (case aO => exact (by (with_reducible repeat (first | apply Kd.R_alloc | apply Kd.R_drewN | apply Kd.R_drew)); exact HO127.out)); (case aS => exact (below_size (by repeat (first | (with_reducible first | exact HB.out | apply below_alloc | apply pw_below_drewN | apply below_drew1) | exact HB.out)))); (case aL => have := LMc3.out; omega); intro v129 w5 ho hb hg hat; (first | rw [← Ny128.out] at ho | (simp only [Int.reduceToNat] at ho; rw [← Ny128.out] at ho)); have n0_ := Aside0.mk (hb); have n1_ := Aside0.mk (ho); clear HB; clear HO127; have HB := n0_; have HO130 := n1_; clear n0_ n1_; clear ho hb hg hat))
    go_loopg [4] k (fun kq v4 w' => ∃ (x3_1 : List Bool) (x4_1 : Int), v4 = .int .i64 x4_1 ∧ Aside0 (keepsakeref01_Sum.l0 kq x3_1 x4_1 = some r) ∧ Aside0 (kq ≤ k) ∧ Aside0 (Kd.R Kd.bool 4 w' w.heap.size (fun _ => True) v129 x3_1) ∧ Aside0 (Below w.heap.size w w'))
    case atStart => exact ⟨(y128), (0), (by first | rfl | (simp; done) | (simp [*]; done) | (simp; omega)), H', ⟨Nat.le_refl _⟩, ⟨by (with_reducible repeat (first | apply Kd.R_alloc | apply Kd.R_drewN | apply Kd.R_drew)); exact HO130.out⟩, ⟨by repeat (first | (with_reducible first | exact HB.out | apply below_alloc | apply pw_below_drewN | apply below_drew1) | exact HB.out)⟩⟩
    case round =>
      clear H'
      try clear c1
      try clear p2
      try clear c3
      obtain ⟨x3_1, x4_1, rfl, HA, HK1, HO_3, HB⟩ := hrel
      cases gk with
      | zero => exact absurd HA.out (by simp [keepsakeref01_Sum.l0])
      | succ k1 =>
        have H := HA.out
        clear HA
        simp only [keepsakeref01_Sum.l0] at H
        by_cases c6 : x4_1 < 32
        · rw [if_pos c6] at H
          have c6b0 : decide (x4_1 < 32) = true := decide_eq_true c6
          clear c6
          by_cases c7 : 0 ≤ x4_1
          · rw [if_pos c7] at H
            have c7b0 : decide (0 ≤ x4_1) = true := decide_eq_true c7
            clear c7
            by_cases c8 : x4_1 < (x3_1.length : Int)
            · rw [if_pos c8] at H
              have c8b0 : decide (x4_1 < (x3_1.length : Int)) = true := decide_eq_true c8
              clear c8
              obtain ⟨y132, hy132⟩ : ∃ y_ : List Bool, y_ = (x3_1.set (x4_1 : Int).toNat (!(rdOf false x3_1 x4_1))) := ⟨_, rfl⟩
              replace H : (keepsakeref01_Sum.l0 k1 y132 (wrap64 (x4_1 + 1))) = some r := by first | (rw [hy132]; with_reducible exact H) | (have H2_ := (Option.bind_some _ _).symm.trans H; rw [hy132]; with_reducible exact H2_) | (have H2_ := (Option.bind_some _ _).symm.trans H; with_reducible exact H2_) | with_reducible exact H | (rw [hy132]; exact H) | exact H
              have Ny132 := Aside0.mk hy132
              clear hy132
              have H' := Aside0.mk H
              clear H
              obtain ⟨Ao10, co10, eo10⟩ := Kd.R_slice HO_3.out
              subst eo10
              have p131 : 0 ≤ (x4_1 : Int) := of_decide_eq_true (by first | (with_reducible assumption) | assumption)
              have q131 : x4_1 < (x3_1.length : Int) := of_decide_eq_true (by first | (with_reducible assumption) | assumption)
              obtain ⟨ad131, e131, hx131_0⟩ := Kd.at_bool (Kd.R_reads' HO_3.out).2.2 x4_1 p131 q131
              cases e131
              replace p131 := eq_true p131
              replace q131 := eq_true q131
              have p9 : 0 ≤ (x4_1 : Int) := of_decide_eq_true (by first | (with_reducible assumption) | assumption)
              have q9 : (x4_1 : Int) < ((x3_1.length : Int) : Int) := of_decide_eq_true (by first | (with_reducible assumption) | assumption)
              obtain ⟨go9, co9, eo9, gb9, gl9, cl9, HG9⟩ := Kd.R_form HO_3.out (by omega)
              (first | cases eo9 | (injection eo9 with ea_ en_ ec_; (first | subst ea_ | (injection ea_ with ea_; subst ea_)); subst ec_; clear en_))
              have GB9 := Aside0.mk gb9
              have GG9 := Aside0.mk HG9
              clear gb9 gl9 HG9
              (first | simp only [add_plain] at hx131_0 | skip)
              obtain ⟨hx9_0, hf9_0⟩ := Kd.R_celln false HO_3.out (x4_1 : Int) p9 q9
              replace p9 := eq_true p9
              replace q9 := eq_true q9
              have HP11 := Kd.R_putg HO_3.out (x4_1 : Int) (!(rdOf false x3_1 x4_1))
              go_wp2_with (first | ((with_reducible refine gate_store (t := 4) (p := 21) rfl ?_); refine store_event (t := 4) (p := 21) (v := ?vo_w12) (w1 := (wr.setCell ⟨go9, (x4_1 : Int).toNat, none⟩ (.bool (!(rdOf false x3_1 x4_1))))) ?hg ?ho ?hn ?hr ?_; (case ho => rfl); (case hg => rfl); (case hn => rfl); (case hr => first | (go_simp; done) | (go_simp; rfl)); intro w12 hw; have hg : wr.grownBy w12 (some go9) := (by rw [hw]; exact HP11.2); have hp_ : Kd.R Kd.bool 4 w12 w.heap.size (fun _ => True) (.slice (some ⟨go9, 0, none⟩) x3_1.length co10) y132 := (by rw [hw, Ny132.out]; exact HP11.1); clear HP11; have n0_ := Aside0.mk (hp_); have n1_ := Aside0.mk ((by rw [hw]; exact below_set (HB.out) GB9.out : Below w.heap.size w w12)); clear HO_3; clear HB; have HO_3 := n0_; have HB := n1_; clear n0_ n1_; clear hg hw hp_))
              go_roundg k1
              case measure => have := HK1.out; omega
              case rel => exact ⟨(y132), (wrap64 (x4_1 + 1)), (by first | rfl | (simp; done) | (simp [*]; done) | (simp; omega)), H', ⟨by have := HK1.out; omega⟩, ⟨by (with_reducible repeat (first | apply Kd.R_alloc | apply Kd.R_drewN | apply Kd.R_drew)); exact HO_3.out⟩, ⟨by repeat (first | (with_reducible first | exact HB.out | apply below_alloc | apply pw_below_drewN | apply below_drew1) | exact HB.out)⟩⟩
            · rw [if_neg c8] at H
              exact absurd H (by simp)
          · rw [if_neg c7] at H
            exact absurd H (by simp)
        · rw [if_neg c6] at H
          have c6b0 : decide (x4_1 < 32) = false := decide_eq_false c6
          clear c6
          replace H := Option.bind_eq_some_iff.mp H
          obtain ⟨t133, A130, H⟩ := H
          replace H : (keepsakeref01_Sum.l1 k1 t133 0) = some r := H
          have A13 := Aside0.mk A130
          clear A130
          have H' := Aside0.mk H
          clear H
          obtain ⟨Ao14, co14, eo14⟩ := Kd.R_slice HO_3.out
          subst eo14
          go_wp2_with (first | ((with_reducible refine gate_callee (f := 18) rfl ?_); refine goesL_ (some 23) rfl rfl Try.func18 (by kernel_rfl) rfl #[.slice Ao14 x3_1.length co14] rfl (by (try simp only [List.map_toArray, List.map_cons, List.map_nil]); first | done | rfl | (simp only [List.length_drop, List.length_take]; rfl)) ?_; (with_reducible refine (keepsakeref01_left.calls k1 (fun k_ => some k_ = (.slice Ao14 x3_1.length co14 : Value).ownBlock) (.slice Ao14 x3_1.length co14) x3_1 t133 w _ ?side1 ?side2 A13.out).mono ?_); (case side1 => repeat (first | (with_reducible first | exact HB.out | apply below_alloc | apply pw_below_drewN | apply below_drew1) | exact HB.out)); (case side2 => exact Kd.R_tight rfl HO_3.out); rintro e w15 ⟨v134, rfl, ho0, hb, hkp⟩; refine ⟨_, rfl, ?_⟩; have n0_ := Aside0.mk (Kd.Q_mono (ok' := fun k_ => True) ho0 (fun k_ hk_ => trivial)); have n1_ := Aside0.mk (hb); clear HB; clear HO_3; have HO135 := n0_; have HB := n1_; clear n0_ n1_; (try clear hb); (try clear hkp); (try clear ho0)))
          go_loopg [6] k1 (fun kq v6 w' => ∃ (x5_2 : List Bool) (x6_2 : Int), v6 = .int .i64 x6_2 ∧ Aside0 (keepsakeref01_Sum.l1 kq x5_2 x6_2 = some r) ∧ Aside0 (kq ≤ k1) ∧ Aside0 (Kd.Q Kd.bool 4 w' w.heap.size (fun _ => True) v134 x5_2) ∧ Aside0 (Below w.heap.size w w'))
          case atStart => exact ⟨(t133), (0), (by first | rfl | (simp; done) | (simp [*]; done) | (simp; omega)), H', ⟨Nat.le_refl _⟩, ⟨by (with_reducible repeat (first | apply Kd.Q_alloc | apply Kd.Q_drewN | apply Kd.Q_drew)); exact HO135.out⟩, ⟨by repeat (first | (with_reducible first | exact HB.out | apply below_alloc | apply pw_below_drewN | apply below_drew1) | exact HB.out)⟩⟩
          case round =>
            clear H'
            try clear c1
            try clear p1
            try clear q1
            try clear hx1
            try clear p2
            try clear c3
            try clear c6
            try clear c6b0
            try clear p6
            try clear c7
            try clear c7b0
            try clear c8
            try clear c8b0
            try clear p9
            try clear q9
            try clear hx9
            try clear hf9
            try clear c12
            try clear p13
            try clear q13
            try clear hx13
            try clear hx131_0
            try clear hx9_0
            try clear p131
            try clear p2
            try clear p9
            try clear q131
            try clear q9
            obtain ⟨x5_2, x6_2, rfl, HA, HK2, HO_5, HB⟩ := hrel
            cases gk with
            | zero => exact absurd HA.out (by simp [keepsakeref01_Sum.l1])
            | succ k2 =>
              have H := HA.out
              clear HA
              simp only [keepsakeref01_Sum.l1] at H
              by_cases c16 : x6_2 < 32
              · rw [if_pos c16] at H
                have c16b0 : decide (x6_2 < 32) = true := decide_eq_true c16
                clear c16
                by_cases c17 : 0 ≤ x6_2
                · rw [if_pos c17] at H
                  have c17b0 : decide (0 ≤ x6_2) = true := decide_eq_true c17
                  clear c17
                  by_cases c18 : x6_2 < (x5_2.length : Int)
                  · rw [if_pos c18] at H
                    have c18b0 : decide (x6_2 < (x5_2.length : Int)) = true := decide_eq_true c18
                    clear c18
                    obtain ⟨y137, hy137⟩ : ∃ y_ : List Bool, y_ = (x5_2.set (x6_2 : Int).toNat (!(rdOf false x5_2 x6_2))) := ⟨_, rfl⟩
                    replace H : (keepsakeref01_Sum.l1 k2 y137 (wrap64 (x6_2 + 1))) = some r := by first | (rw [hy137]; with_reducible exact H) | (have H2_ := (Option.bind_some _ _).symm.trans H; rw [hy137]; with_reducible exact H2_) | (have H2_ := (Option.bind_some _ _).symm.trans H; with_reducible exact H2_) | with_reducible exact H | (rw [hy137]; exact H) | exact H
                    have Ny137 := Aside0.mk hy137
                    clear hy137
                    have H' := Aside0.mk H
                    clear H
                    obtain ⟨Ao20, co20, eo20, _⟩ := Kd.Q_slice HO_5.out
                    subst eo20
                    have p136 : 0 ≤ (x6_2 : Int) := of_decide_eq_true (by first | (with_reducible assumption) | assumption)
                    have q136 : x6_2 < (x5_2.length : Int) := of_decide_eq_true (by first | (with_reducible assumption) | assumption)
                    obtain ⟨ad136, e136, hx136_0⟩ := Kd.at_bool (Kd.Q_reads' HO_5.out).2.2 x6_2 p136 q136
                    cases e136
                    replace p136 := eq_true p136
                    replace q136 := eq_true q136
                    have p19 : 0 ≤ (x6_2 : Int) := of_decide_eq_true (by first | (with_reducible assumption) | assumption)
                    have q19 : (x6_2 : Int) < ((x5_2.length : Int) : Int) := of_decide_eq_true (by first | (with_reducible assumption) | assumption)
                    obtain ⟨go19, oo19, co19, eo19, gb19, gl19, cl19, HG19⟩ := Kd.Q_form HO_5.out (by omega)
                    (first | cases eo19 | (injection eo19 with ea_ en_ ec_; (first | subst ea_ | (injection ea_ with ea_; subst ea_)); subst ec_; clear en_))
                    have GB19 := Aside0.mk gb19
                    have GG19 := Aside0.mk HG19
                    clear gb19 gl19 HG19
                    (first | simp only [add_at] at hx136_0 | skip)
                    obtain ⟨hx19_0, hf19_0⟩ := Kd.Q_cell false HO_5.out (x6_2 : Int) p19 q19
                    replace p19 := eq_true p19
                    replace q19 := eq_true q19
                    have HP21 := Kd.Q_putg HO_5.out (x6_2 : Int) (of_decide_eq_true (by first | (with_reducible assumption) | assumption)) (by have h_ : (x6_2 : Int) < ((x5_2.length : Int) : Int) := of_decide_eq_true (by first | (with_reducible assumption) | assumption); first | exact h_ | (have e_ := (Kd.Q_reads' HO_5.out).1; omega) | simpa using h_) (!(rdOf false x5_2 x6_2))
                    go_wp2_with (first | ((with_reducible refine gate_store (t := 4) (p := 35) rfl ?_); refine store_event (t := 4) (p := 35) (v := ?vo_w22) (w1 := (wr.setCell ⟨go19, oo19 + (x6_2 : Int).toNat, none⟩ (.bool (!(rdOf false x5_2 x6_2))))) ?hg ?ho ?hn ?hr ?_; (case ho => rfl); (case hg => rfl); (case hn => rfl); (case hr => first | (go_simp; done) | (go_simp; rfl)); intro w22 hw; have hg : wr.grownBy w22 (some go19) := (by rw [hw]; exact HP21.2); have hp_ : Kd.Q Kd.bool 4 w22 w.heap.size (fun _ => True) (.slice (some ⟨go19, oo19, none⟩) x5_2.length co20) y137 := (by rw [hw, Ny137.out]; exact HP21.1); clear HP21; have n0_ := Aside0.mk (hp_); have n1_ := Aside0.mk ((by rw [hw]; exact below_set (HB.out) GB19.out : Below w.heap.size w w22)); clear HO_5; clear HB; have HO_5 := n0_; have HB := n1_; clear n0_ n1_; clear hg hw hp_))
                    go_roundg k2
                    case measure => have := HK1.out; have := HK2.out; omega
                    case rel => exact ⟨(y137), (wrap64 (x6_2 + 1)), (by first | rfl | (simp; done) | (simp [*]; done) | (simp; omega)), H', ⟨by have := HK1.out; have := HK2.out; omega⟩, ⟨by (with_reducible repeat (first | apply Kd.Q_alloc | apply Kd.Q_drewN | apply Kd.Q_drew)); exact HO_5.out⟩, ⟨by repeat (first | (with_reducible first | exact HB.out | apply below_alloc | apply pw_below_drewN | apply below_drew1) | exact HB.out)⟩⟩
                  · rw [if_neg c18] at H
                    exact absurd H (by simp)
                · rw [if_neg c17] at H
                  exact absurd H (by simp)
              · rw [if_neg c16] at H
                have c16b0 : decide (x6_2 < 32) = false := decide_eq_false c16
                clear c16
                replace H := Option.bind_eq_some_iff.mp H
                obtain ⟨t138, A230, H⟩ := H
                replace H : (some t138) = some r := H
                have A23 := Aside0.mk A230
                clear A230
                obtain rfl := Option.some.inj H
                obtain ⟨Ao24, co24, eo24, _⟩ := Kd.Q_slice HO_5.out
                subst eo24
                go_wp2_with (first | ((with_reducible refine gate_callee (f := 19) rfl ?_); refine goesL_ (some 37) rfl rfl Try.func19 (by kernel_rfl) rfl #[.slice Ao24 x5_2.length co24] rfl (by (try simp only [List.map_toArray, List.map_cons, List.map_nil]); first | done | rfl | (simp only [List.length_drop, List.length_take]; rfl)) ?_; (with_reducible refine (keepsakeref01_word.calls k2 _ _ x5_2 t138 _ ?side1 ?side2 A23.out).mono ?_); (case side1 => repeat (first | exact (Kd.Q_reads' HO_5.out).2.2 | (with_reducible refine Kd.C_alloc ?_ _) | (with_reducible refine Kd.C_drewN ?_ _) | (with_reducible refine Kd.C_drew ?_))); (case side2 => exact (Kd.Q_reads' HO_5.out).2.1); rintro e w' ⟨rfl, ⟨nd, rfl⟩⟩; refine ⟨_, rfl, ?_⟩))
                go_ret
                exact ⟨by first | rfl | (simp [errW_none, errW_some] <;> rfl) | (simp [*, errW_none, errW_some] <;> rfl), by repeat (first | (with_reducible first | exact HB.out | apply below_alloc | apply pw_below_drewN | apply below_drew1) | exact HB.out)⟩
  · rw [if_neg c3] at H
    exact absurd H (by simp)

end Go.Proofs.Ytcnciialpehjjaa.All
