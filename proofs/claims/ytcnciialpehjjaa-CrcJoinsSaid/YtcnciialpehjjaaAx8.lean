-- written by a program of mine (xprint_patch.py over the kit's print)
import Derived.Test.YtcnciialpehjjaaAx0
import Derived.Test.YtcnciialpehjjaaAx1
import Derived.Test.YtcnciialpehjjaaAx3
import Derived.Test.YtcnciialpehjjaaAx4
import Derived.Test.YtcnciialpehjjaaAwake
namespace Go.Proofs.Ytcnciialpehjjaa.All
open Go.Proofs.Ytcnciialpehjjaa.Given
open Go.RowKit Go.Proofs.YtcnciialpehjjaaW.PrintWords Go.Proofs.YtcnciialpehjjaaW.PrintLast Go.Proofs.YtcnciialpehjjaaW.PrintMore
attribute [local go_sem] max2_int min2_int max_two min_two max_three min_three max_four min_four   -- for this text's walks alone
set_option linter.unusedVariables false
set_option linter.unusedSimpArgs false

/-! ### keepsakeref01_Shift: function 15 -/
def keepsakeref01_Shift.l0 : Nat → Int → Int → List Bool → Int → Option (Int)
  | 0, _, _, _, _ => none
  | k + 1, x0, x1, x5, x6 => if x6 < 32 then (if x5.length < 140737488355328 then (keepsakeref01_Shift.l0 k ((Int.tdiv x0 2) % 4294967296) x1 (x5 ++ [((Int.tmod x0 2) == 1)]) (wrap64 (x6 + 1))) else (none)) else (if 0 ≤ (wrap64 (8 * x1)) then (if x5.length + (wrap64 (8 * x1) : Int).toNat < 140737488355328 then ((keepsakeref01_left.f k (x5 ++ List.replicate (wrap64 (8 * x1) : Int).toNat false)).bind fun t161 => ((keepsakeref01_word.f k t161).bind fun t164 => (some t164))) else (none)) else (none))
def keepsakeref01_Shift.f (k : Nat) (a0 : Int) (a1 : Int) : Option (Int) := keepsakeref01_Shift.l0 k a0 a1 ([] : List Bool) 0
theorem keepsakeref01_Shift.mono_l : ∀ k, (∀ y0 y1 y2 y3, LeO (keepsakeref01_Shift.l0 k y0 y1 y2 y3) (keepsakeref01_Shift.l0 (k + 1) y0 y1 y2 y3))
  | 0 => fun _ _ _ _ r h => by simp [keepsakeref01_Shift.l0] at h
  | k + 1 => by
    have ih0 := keepsakeref01_Shift.mono_l k
    · intro y0 y1 y2 y3
      unfold keepsakeref01_Shift.l0
      repeat' first
      | (with_reducible exact ih0 _ _ _ _)
      | (with_reducible exact keepsakeref01_left.mono _ _)
      | (with_reducible exact keepsakeref01_word.mono _ _)
      | (with_reducible exact LeO.refl _)
      | (with_reducible exact LeO.none _)
      | (with_reducible refine LeO.ite ?_ ?_)
      | (with_reducible refine LeO.bind ?_ (fun _ => ?_))
      | exact ih0 _ _ _ _
      | exact keepsakeref01_left.mono _ _
      | exact keepsakeref01_word.mono _ _
      | exact LeO.none _
      | refine LeO.ite ?_ ?_
      | refine LeO.bind ?_ (fun _ => ?_)
theorem keepsakeref01_Shift.mono : ∀ a0 a1 k, LeO (keepsakeref01_Shift.f k a0 a1) (keepsakeref01_Shift.f (k + 1) a0 a1) := by
  intro a0 a1 k
  have ih0 := keepsakeref01_Shift.mono_l k
  unfold keepsakeref01_Shift.f
  repeat' first
      | (with_reducible exact ih0 _ _ _ _)
      | (with_reducible exact keepsakeref01_left.mono _ _)
      | (with_reducible exact keepsakeref01_word.mono _ _)
      | (with_reducible exact LeO.refl _)
      | (with_reducible exact LeO.none _)
      | (with_reducible refine LeO.ite ?_ ?_)
      | (with_reducible refine LeO.bind ?_ (fun _ => ?_))
      | exact ih0 _ _ _ _
      | exact keepsakeref01_left.mono _ _
      | exact keepsakeref01_word.mono _ _
      | exact LeO.none _
      | refine LeO.ite ?_ ?_
      | refine LeO.bind ?_ (fun _ => ?_)
set_option maxHeartbeats 8000000 in
set_option maxRecDepth 100000 in
theorem keepsakeref01_Shift.calls (k : Nat) (a0 : Int) (a1 : Int) (r : Int) (w : World) (h : keepsakeref01_Shift.f k a0 a1 = some r) :
    Calls Try.prog 15 #[.int .u32 a0, .int .i64 a1] w fun e w' => e = .returned (.int .u32 r) ∧ Below w.heap.size w w' := by
  have HB := Aside0.mk (Below.refl w.heap.size w)
  have H : (keepsakeref01_Shift.l0 k a0 a1 ([] : List Bool) 0) = some r := h
  clear h
  have H' := Aside0.mk H
  clear H
  go_enter Try.func15, Try.ntmps15
  go_wp2
  go_loopg [0, 5, 6] k (fun kq v0 v5 v6 w' => ∃ (x0_1 : Int) (x5_1 : List Bool) (x6_1 : Int), v0 = .int .u32 x0_1 ∧ v6 = .int .i64 x6_1 ∧ Aside0 (keepsakeref01_Shift.l0 kq x0_1 a1 x5_1 x6_1 = some r) ∧ Aside0 (kq ≤ k) ∧ Aside0 (Kd.R Kd.bool 4 w' w.heap.size (fun _ => True) v5 x5_1) ∧ Aside0 (Below w.heap.size w w'))
  case atStart => exact ⟨(a0), (([] : List Bool)), (0), (by first | rfl | (simp; done) | (simp [*]; done) | (simp; omega)), (by first | rfl | (simp; done) | (simp [*]; done) | (simp; omega)), H', ⟨Nat.le_refl _⟩, ⟨by first | exact Kd.R_nil _ _ _ _ _ | exact Kd.N_nil _ _ _ _ _ | exact Kd.V_nil _ _ _ _ _ | exact Kd.Q_nil _ _ _ _ _ | exact Kd.S_nil _ _ _ _ _⟩, ⟨by repeat (first | (with_reducible first | exact HB.out | apply below_alloc | apply pw_below_drewN | apply below_drew1) | exact HB.out)⟩⟩
  case round =>
    clear H'
    try clear c1
    try clear p2
    obtain ⟨x0_1, x5_1, x6_1, rfl, rfl, HA, HK1, HO_5, HB⟩ := hrel
    cases gk with
    | zero => exact absurd HA.out (by simp [keepsakeref01_Shift.l0])
    | succ k1 =>
      have H := HA.out
      clear HA
      simp only [keepsakeref01_Shift.l0] at H
      by_cases c3 : x6_1 < 32
      · rw [if_pos c3] at H
        have c3b0 : decide (x6_1 < 32) = true := decide_eq_true c3
        clear c3
        by_cases c4 : x5_1.length < 140737488355328
        · rw [if_pos c4] at H
          have LMc4 := Aside0.mk c4
          clear c4
          obtain ⟨y155, hy155⟩ : ∃ y_ : List Bool, y_ = (x5_1 ++ [((Int.tmod x0_1 2) == 1)]) := ⟨_, rfl⟩
          replace H : (keepsakeref01_Shift.l0 k1 ((Int.tdiv x0_1 2) % 4294967296) a1 y155 (wrap64 (x6_1 + 1))) = some r := by first | (rw [hy155]; with_reducible exact H) | (have H2_ := (Option.bind_some _ _).symm.trans H; rw [hy155]; with_reducible exact H2_) | (have H2_ := (Option.bind_some _ _).symm.trans H; with_reducible exact H2_) | with_reducible exact H | (rw [hy155]; exact H) | exact H
          have Ny155 := Aside0.mk hy155
          clear hy155
          have H' := Aside0.mk H
          clear H
          go_wp2_with (first | ((with_reducible refine gate_builtin (b := .append) (xs := #[.tmp 11, .tmp 15]) rfl ?_); at_builtin; refine Kd.R_append Kd.bool (w0 := w) w.heap.size rfl (.tmp 11) (.tmp 15) 40 4 (.bool false) 1 rfl Try.underlying40 info4 rfl (by decide) (by omega) u5 x5_1 ((Int.tmod x0_1 2) == 1) [.bool ((Int.tmod x0_1 2) == 1)] (fun _ => True) (fun _ => False) rfl rfl ?aP (fun _ hk => hk.elim) ?aF ?aO ?aB ?aS ?aL ?_; (case aP => exact rfl); (case aB => exact (by repeat (first | (with_reducible first | exact HB.out | apply below_alloc | apply pw_below_drewN | apply below_drew1) | exact HB.out))); (case aF => exact (fun _ _ => trivial)); (case aO => exact (by (with_reducible repeat (first | apply Kd.R_alloc | apply Kd.R_drewN | apply Kd.R_drew)); exact HO_5.out)); (case aS => exact (below_size (by repeat (first | (with_reducible first | exact HB.out | apply below_alloc | apply pw_below_drewN | apply below_drew1) | exact HB.out)))); (case aL => have := LMc4.out; omega); intro v156 w5 ho hb hg hat; (first | rw [← Ny155.out] at ho | (simp only [Int.reduceToNat] at ho; rw [← Ny155.out] at ho)); have n0_ := Aside0.mk (hb); have n1_ := Aside0.mk (ho); clear HB; clear HO_5; have HB := n0_; have HO157 := n1_; clear n0_ n1_; clear ho hb hg hat))
          go_roundg k1
          case measure => have := HK1.out; omega
          case rel => exact ⟨((Int.tdiv x0_1 2) % 4294967296), (y155), (wrap64 (x6_1 + 1)), (by first | rfl | (simp; done) | (simp [*]; done) | (simp; omega)), (by first | rfl | (simp; done) | (simp [*]; done) | (simp; omega)), H', ⟨by have := HK1.out; omega⟩, ⟨by (with_reducible repeat (first | apply Kd.R_alloc | apply Kd.R_drewN | apply Kd.R_drew)); exact HO157.out⟩, ⟨by repeat (first | (with_reducible first | exact HB.out | apply below_alloc | apply pw_below_drewN | apply below_drew1) | exact HB.out)⟩⟩
        · rw [if_neg c4] at H
          exact absurd H (by simp)
      · rw [if_neg c3] at H
        have c3b0 : decide (x6_1 < 32) = false := decide_eq_false c3
        clear c3
        obtain ⟨ji6, hji6⟩ : ∃ j_ : Int, (wrap64 (8 * a1)) = j_ := ⟨_, rfl⟩
        replace H : (if 0 ≤ (ji6) then (if x5_1.length + (ji6 : Int).toNat < 140737488355328 then ((keepsakeref01_left.f k1 (x5_1 ++ List.replicate (ji6 : Int).toNat false)).bind fun t161 => ((keepsakeref01_word.f k1 t161).bind fun t164 => (some t164))) else (none)) else (none)) = some r := by first | (rw [hji6] at H; exact H) | (simp only [hji6] at H ⊢; exact H)
        have hji6w : (IntKind.i64.wrap (8 * a1)) = ji6 := (i64_w _).trans hji6
        by_cases c7 : 0 ≤ (ji6)
        · rw [if_pos c7] at H
          have c7b0 := eq_true c7
          have c7b1 : decide (0 ≤ (ji6)) = true := decide_eq_true c7
          clear c7
          by_cases c8 : x5_1.length + (ji6 : Int).toNat < 140737488355328
          · rw [if_pos c8] at H
            have LMc8 := Aside0.mk c8
            clear c8
            obtain ⟨y158, hy158⟩ : ∃ y_ : List Bool, y_ = (x5_1 ++ List.replicate (ji6 : Int).toNat false) := ⟨_, rfl⟩
            replace H : ((keepsakeref01_left.f k1 y158).bind fun t161 => ((keepsakeref01_word.f k1 t161).bind fun t164 => (some t164))) = some r := by first | (rw [hy158]; with_reducible exact H) | (have H2_ := (Option.bind_some _ _).symm.trans H; rw [hy158]; with_reducible exact H2_) | (have H2_ := (Option.bind_some _ _).symm.trans H; with_reducible exact H2_) | with_reducible exact H | (rw [hy158]; exact H) | exact H
            have Ny158 := Aside0.mk hy158
            clear hy158
            replace H := Option.bind_eq_some_iff.mp H
            obtain ⟨t161, A90, H⟩ := H
            replace H : ((keepsakeref01_word.f k1 t161).bind fun t164 => (some t164)) = some r := H
            have A9 := Aside0.mk A90
            clear A90
            replace H := Option.bind_eq_some_iff.mp H
            obtain ⟨t164, A100, H⟩ := H
            replace H : (some t164) = some r := H
            have A10 := Aside0.mk A100
            clear A100
            obtain rfl := Option.some.inj H
            go_wp2_with (first | (at_builtin; refine Kd.R_append_zeros Kd.bool (w0 := w) w.heap.size rfl (.tmp 19) (.tmp 21) 40 3 4 (.bool false) 1 rfl Try.underlying40 Try.underlying3 info4 rfl (by decide) (by omega) u5 x5_1 false (ji6 : Int) (fun _ => True) rfl rfl rfl ?aF ?aO (of_decide_eq_true (by first | (with_reducible assumption) | assumption)) ?aB ?aS ?aL ?_; (case aB => exact (by repeat (first | (with_reducible first | exact HB.out | apply below_alloc | apply pw_below_drewN | apply below_drew1) | exact HB.out))); (case aF => exact (fun _ _ => trivial)); (case aO => exact (by (with_reducible repeat (first | apply Kd.R_alloc | apply Kd.R_drewN | apply Kd.R_drew)); exact HO_5.out)); (case aS => exact (below_size (by repeat (first | (with_reducible first | exact HB.out | apply below_alloc | apply pw_below_drewN | apply below_drew1) | exact HB.out)))); (case aL => have := LMc8.out; omega); intro v159 w11 ho hb hg hat; (first | rw [← Ny158.out] at ho | (simp only [Int.reduceToNat] at ho; rw [← Ny158.out] at ho)); have n0_ := Aside0.mk (hb); have n1_ := Aside0.mk (ho); clear HB; clear HO_5; have HB := n0_; have HO160 := n1_; clear n0_ n1_; clear ho hb hg hat; obtain ⟨Ao12, co12, eo12⟩ := Kd.R_slice HO160.out; subst eo12) | ((with_reducible refine gate_callee (f := 18) rfl ?_); refine goesL_ (some 23) rfl rfl Try.func18 (by kernel_rfl) rfl #[.slice Ao12 y158.length co12] rfl (by (try simp only [List.map_toArray, List.map_cons, List.map_nil]); first | done | rfl | (simp only [List.length_drop, List.length_take]; rfl)) ?_; (with_reducible refine (keepsakeref01_left.calls k1 (fun k_ => some k_ = (.slice Ao12 y158.length co12 : Value).ownBlock) (.slice Ao12 y158.length co12) y158 t161 w _ ?side1 ?side2 A9.out).mono ?_); (case side1 => repeat (first | (with_reducible first | exact HB.out | apply below_alloc | apply pw_below_drewN | apply below_drew1) | exact HB.out)); (case side2 => exact Kd.R_tight rfl HO160.out); rintro e w13 ⟨v162, rfl, ho0, hb, hkp⟩; refine ⟨_, rfl, ?_⟩; have n0_ := Aside0.mk (Kd.Q_mono (ok' := fun k_ => True) ho0 (fun k_ hk_ => trivial)); have n1_ := Aside0.mk (hb); clear HB; clear HO160; have HO163 := n0_; have HB := n1_; clear n0_ n1_; (try clear hb); (try clear hkp); (try clear ho0); obtain ⟨Ao14, co14, eo14, _⟩ := Kd.Q_slice HO163.out; subst eo14) | ((with_reducible refine gate_callee (f := 19) rfl ?_); refine goesL_ (some 24) rfl rfl Try.func19 (by kernel_rfl) rfl #[.slice Ao14 t161.length co14] rfl (by (try simp only [List.map_toArray, List.map_cons, List.map_nil]); first | done | rfl | (simp only [List.length_drop, List.length_take]; rfl)) ?_; (with_reducible refine (keepsakeref01_word.calls k1 _ _ t161 t164 _ ?side1 ?side2 A10.out).mono ?_); (case side1 => repeat (first | exact (Kd.Q_reads' HO163.out).2.2 | (with_reducible refine Kd.C_alloc ?_ _) | (with_reducible refine Kd.C_drewN ?_ _) | (with_reducible refine Kd.C_drew ?_))); (case side2 => exact (Kd.Q_reads' HO163.out).2.1); rintro e w' ⟨rfl, ⟨nd, rfl⟩⟩; refine ⟨_, rfl, ?_⟩))
            go_ret
            exact ⟨by first | rfl | (simp [errW_none, errW_some] <;> rfl) | (simp only [← hji6]; first | rfl | (simp [errW_none, errW_some] <;> rfl)) | (simp [*, errW_none, errW_some] <;> rfl), by repeat (first | (with_reducible first | exact HB.out | apply below_alloc | apply pw_below_drewN | apply below_drew1) | exact HB.out)⟩
          · rw [if_neg c8] at H
            exact absurd H (by simp)
        · rw [if_neg c7] at H
          exact absurd H (by simp)

/-! ### keepsakelaw01_CrcJoins: function 5 -/
def keepsakelaw01_CrcJoins.f (k : Nat) (a0 : Int) (a1 : Int) (a2 : Int) : Option (Bool) := (keepsakelaw01_awake.f).bind fun t165 => (if t165 = true then ((crc_Join.f a0 a1 (wrap64 (Int.tmod a2 101))).bind fun t166 => ((keepsakeref01_Shift.f k a0 (wrap64 (Int.tmod a2 101))).bind fun t167 => (if t166 = (Go.bits .xor .u32 t167 a1) then ((crc_Join.f a0 a1 0).bind fun t168 => (some (t168 == (Go.bits .xor .u32 a0 a1)))) else (some false)))) else (some false))
theorem keepsakelaw01_CrcJoins.mono : ∀ a0 a1 a2 k, LeO (keepsakelaw01_CrcJoins.f k a0 a1 a2) (keepsakelaw01_CrcJoins.f (k + 1) a0 a1 a2) := by
  intro a0 a1 a2 k
  unfold keepsakelaw01_CrcJoins.f
  repeat' first
      | (with_reducible exact keepsakeref01_Shift.mono _ _ _)
      | (with_reducible exact LeO.refl _)
      | (with_reducible exact LeO.none _)
      | (with_reducible refine LeO.ite ?_ ?_)
      | (with_reducible refine LeO.bind ?_ (fun _ => ?_))
      | exact keepsakeref01_Shift.mono _ _ _
      | exact LeO.none _
      | refine LeO.ite ?_ ?_
      | refine LeO.bind ?_ (fun _ => ?_)
set_option maxHeartbeats 8000000 in
set_option maxRecDepth 100000 in
theorem keepsakelaw01_CrcJoins.calls (k : Nat) (a0 : Int) (a1 : Int) (a2 : Int) (r : Bool) (w : World) (h : keepsakelaw01_CrcJoins.f k a0 a1 a2 = some r) :
    Calls Try.prog 5 #[.int .u32 a0, .int .u32 a1, .int .u8 a2] w fun e w' => e = .returned (.bool r) ∧ Below w.heap.size w w' := by
  have HB := Aside0.mk (Below.refl w.heap.size w)
  have H : ((keepsakelaw01_awake.f).bind fun t165 => (if t165 = true then ((crc_Join.f a0 a1 (wrap64 (Int.tmod a2 101))).bind fun t166 => ((keepsakeref01_Shift.f k a0 (wrap64 (Int.tmod a2 101))).bind fun t167 => (if t166 = (Go.bits .xor .u32 t167 a1) then ((crc_Join.f a0 a1 0).bind fun t168 => (some (t168 == (Go.bits .xor .u32 a0 a1)))) else (some false)))) else (some false))) = some r := h
  clear h
  replace H := Option.bind_eq_some_iff.mp H
  obtain ⟨t165, A40, H⟩ := H
  replace H : (if t165 = true then ((crc_Join.f a0 a1 (wrap64 (Int.tmod a2 101))).bind fun t166 => ((keepsakeref01_Shift.f k a0 (wrap64 (Int.tmod a2 101))).bind fun t167 => (if t166 = (Go.bits .xor .u32 t167 a1) then ((crc_Join.f a0 a1 0).bind fun t168 => (some (t168 == (Go.bits .xor .u32 a0 a1)))) else (some false)))) else (some false)) = some r := H
  have A4 := Aside0.mk A40
  clear A40
  by_cases c5 : t165 = true
  · subst c5
    have H1 : ((crc_Join.f a0 a1 (wrap64 (Int.tmod a2 101))).bind fun t166 => ((keepsakeref01_Shift.f k a0 (wrap64 (Int.tmod a2 101))).bind fun t167 => (if t166 = (Go.bits .xor .u32 t167 a1) then ((crc_Join.f a0 a1 0).bind fun t168 => (some (t168 == (Go.bits .xor .u32 a0 a1)))) else (some false)))) = some r := by rw [if_pos rfl] at H; exact H
    clear H
    have H := H1
    clear H1
    replace H := Option.bind_eq_some_iff.mp H
    obtain ⟨t166, A60, H⟩ := H
    replace H : ((keepsakeref01_Shift.f k a0 (wrap64 (Int.tmod a2 101))).bind fun t167 => (if t166 = (Go.bits .xor .u32 t167 a1) then ((crc_Join.f a0 a1 0).bind fun t168 => (some (t168 == (Go.bits .xor .u32 a0 a1)))) else (some false))) = some r := H
    have A6 := Aside0.mk A60
    clear A60
    replace H := Option.bind_eq_some_iff.mp H
    obtain ⟨t167, A70, H⟩ := H
    replace H : (if t166 = (Go.bits .xor .u32 t167 a1) then ((crc_Join.f a0 a1 0).bind fun t168 => (some (t168 == (Go.bits .xor .u32 a0 a1)))) else (some false)) = some r := H
    have A7 := Aside0.mk A70
    clear A70
    by_cases c8 : t166 = (Go.bits .xor .u32 t167 a1)
    · rw [if_pos c8] at H
      have c8b0 : (t166 == (Go.bits .xor .u32 t167 a1)) = true := beq_iff_eq.mpr c8
      have c8b1 : (t166 != (Go.bits .xor .u32 t167 a1)) = false := bne_eq_false_iff_eq.mpr c8
      clear c8
      replace H := Option.bind_eq_some_iff.mp H
      obtain ⟨t168, A90, H⟩ := H
      replace H : (some (t168 == (Go.bits .xor .u32 a0 a1))) = some r := H
      have A9 := Aside0.mk A90
      clear A90
      obtain rfl := Option.some.inj H
      go_enter Try.func5, Try.ntmps5
      go_wp2_with (first | ((with_reducible refine gate_callee (f := 10) rfl ?_); refine goesL_ (some 9) rfl rfl Try.func10 (by kernel_rfl) rfl #[] rfl (by (try simp only [List.map_toArray, List.map_cons, List.map_nil]); first | done | rfl | (simp only [List.length_drop, List.length_take]; rfl)) ?_; (with_reducible refine (keepsakelaw01_awake.calls  true _ A4.out).mono ?_); rintro e w10 ⟨rfl, hb⟩; refine ⟨_, rfl, ?_⟩; have n0_ := Aside0.mk (below_step (by repeat (first | (with_reducible first | exact HB.out | apply below_alloc | apply pw_below_drewN | apply below_drew1) | exact HB.out)) hb); clear HB; have HB := n0_; clear n0_; (try clear hb); (try clear hb2); (try clear hk); (try clear hi)) | (go_at_call 14; (with_reducible refine (crc_Join.calls a0 a1 (wrap64 (Int.tmod a2 101)) t166 _ A6.out).mono ?_); rintro e w11 ⟨rfl, hb⟩; have n0_ := Aside0.mk (below_step (by repeat (first | (with_reducible first | exact HB.out | apply below_alloc | apply pw_below_drewN | apply below_drew1) | exact HB.out)) hb); clear HB; have HB := n0_; clear n0_; (try clear hb); (try clear hb2); (try clear hk); (try clear hi)) | (go_at_call 15; (with_reducible refine (keepsakeref01_Shift.calls k a0 (wrap64 (Int.tmod a2 101)) t167 _ A7.out).mono ?_); rintro e w12 ⟨rfl, hb⟩; have n0_ := Aside0.mk (below_step (by repeat (first | (with_reducible first | exact HB.out | apply below_alloc | apply pw_below_drewN | apply below_drew1) | exact HB.out)) hb); clear HB; have HB := n0_; clear n0_; (try clear hb); (try clear hb2); (try clear hk); (try clear hi)) | (go_at_call 14; (with_reducible refine (crc_Join.calls a0 a1 0 t168 _ A9.out).mono ?_); rintro e w13 ⟨rfl, hb⟩; have n0_ := Aside0.mk (below_step (by repeat (first | (with_reducible first | exact HB.out | apply below_alloc | apply pw_below_drewN | apply below_drew1) | exact HB.out)) hb); clear HB; have HB := n0_; clear n0_; (try clear hb); (try clear hb2); (try clear hk); (try clear hi)))
      go_ret
      exact ⟨by first | rfl | (simp [errW_none, errW_some] <;> rfl) | (simp [*, errW_none, errW_some] <;> rfl), by repeat (first | (with_reducible first | exact HB.out | apply below_alloc | apply pw_below_drewN | apply below_drew1) | exact HB.out)⟩
    · rw [if_neg c8] at H
      have c8b0 : (t166 == (Go.bits .xor .u32 t167 a1)) = false := beq_eq_false_iff_ne.mpr c8
      have c8b1 : (t166 != (Go.bits .xor .u32 t167 a1)) = true := bne_iff_ne.mpr c8
      obtain rfl := Option.some.inj H
      go_enter Try.func5, Try.ntmps5
      go_wp2_with (first | ((with_reducible refine gate_callee (f := 10) rfl ?_); refine goesL_ (some 9) rfl rfl Try.func10 (by kernel_rfl) rfl #[] rfl (by (try simp only [List.map_toArray, List.map_cons, List.map_nil]); first | done | rfl | (simp only [List.length_drop, List.length_take]; rfl)) ?_; (with_reducible refine (keepsakelaw01_awake.calls  true _ A4.out).mono ?_); rintro e w14 ⟨rfl, hb⟩; refine ⟨_, rfl, ?_⟩; have n0_ := Aside0.mk (below_step (by repeat (first | (with_reducible first | exact HB.out | apply below_alloc | apply pw_below_drewN | apply below_drew1) | exact HB.out)) hb); clear HB; have HB := n0_; clear n0_; (try clear hb); (try clear hb2); (try clear hk); (try clear hi)) | (go_at_call 14; (with_reducible refine (crc_Join.calls a0 a1 (wrap64 (Int.tmod a2 101)) t166 _ A6.out).mono ?_); rintro e w15 ⟨rfl, hb⟩; have n0_ := Aside0.mk (below_step (by repeat (first | (with_reducible first | exact HB.out | apply below_alloc | apply pw_below_drewN | apply below_drew1) | exact HB.out)) hb); clear HB; have HB := n0_; clear n0_; (try clear hb); (try clear hb2); (try clear hk); (try clear hi)) | (go_at_call 15; (with_reducible refine (keepsakeref01_Shift.calls k a0 (wrap64 (Int.tmod a2 101)) t167 _ A7.out).mono ?_); rintro e w16 ⟨rfl, hb⟩; have n0_ := Aside0.mk (below_step (by repeat (first | (with_reducible first | exact HB.out | apply below_alloc | apply pw_below_drewN | apply below_drew1) | exact HB.out)) hb); clear HB; have HB := n0_; clear n0_; (try clear hb); (try clear hb2); (try clear hk); (try clear hi)))
      go_ret
      exact ⟨by first | rfl | (simp [errW_none, errW_some] <;> rfl) | (simp [*, errW_none, errW_some] <;> rfl), by repeat (first | (with_reducible first | exact HB.out | apply below_alloc | apply pw_below_drewN | apply below_drew1) | exact HB.out)⟩
  · replace c5 := Bool.eq_false_iff.mpr c5
    subst c5
    have H1 : (some false) = some r := by rw [if_neg (show ¬ (false = true) by decide)] at H; exact H
    clear H
    have H := H1
    clear H1
    obtain rfl := Option.some.inj H
    go_enter Try.func5, Try.ntmps5
    go_wp2_with (first | ((with_reducible refine gate_callee (f := 10) rfl ?_); refine goesL_ (some 9) rfl rfl Try.func10 (by kernel_rfl) rfl #[] rfl (by (try simp only [List.map_toArray, List.map_cons, List.map_nil]); first | done | rfl | (simp only [List.length_drop, List.length_take]; rfl)) ?_; (with_reducible refine (keepsakelaw01_awake.calls  false _ A4.out).mono ?_); rintro e w17 ⟨rfl, hb⟩; refine ⟨_, rfl, ?_⟩; have n0_ := Aside0.mk (below_step (by repeat (first | (with_reducible first | exact HB.out | apply below_alloc | apply pw_below_drewN | apply below_drew1) | exact HB.out)) hb); clear HB; have HB := n0_; clear n0_; (try clear hb); (try clear hb2); (try clear hk); (try clear hi)))
    go_ret
    exact ⟨by first | rfl | (simp [errW_none, errW_some] <;> rfl) | (simp [*, errW_none, errW_some] <;> rfl), by repeat (first | (with_reducible first | exact HB.out | apply below_alloc | apply pw_below_drewN | apply below_drew1) | exact HB.out)⟩

/-- THE ONE PURE STATEMENT of keepsakelaw01_CrcJoins: yours. -/
def keepsakelaw01_CrcJoins.Pure : Prop := ∀ (a0 : Int) (a1 : Int) (a2 : Int), (Lit.int .u32 a0).wf = true → (Lit.int .u32 a1).wf = true → (Lit.int .u8 a2).wf = true → ∃ k, keepsakelaw01_CrcJoins.f k a0 a1 a2 = some true
theorem keepsakelaw01_CrcJoins.walk (P : keepsakelaw01_CrcJoins.Pure) (a0 : Int) (a1 : Int) (a2 : Int) (w : World) (w0 : (Lit.int .u32 a0).wf = true) (w1 : (Lit.int .u32 a1).wf = true) (w2 : (Lit.int .u8 a2).wf = true) :
    Calls Try.prog 5 #[.int .u32 a0, .int .u32 a1, .int .u8 a2] w fun e w' => e = .returned (.bool true) ∧ Below w.heap.size w w' := by
  obtain ⟨k, h⟩ := P a0 a1 a2 w0 w1 w2
  refine (keepsakelaw01_CrcJoins.calls k a0 a1 a2 true w h).mono ?_
  rintro e w' ⟨rfl, hd⟩
  exact ⟨rfl, hd⟩

end Go.Proofs.Ytcnciialpehjjaa.All
