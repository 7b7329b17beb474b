-- written by a program of mine (xprint_patch.py over the kit's print)
import Derived.Test.YtlinaijndlcfjaaDoorAx0
import Derived.Test.YtlinaijndlcfjaaDoorAx3
namespace Go.Proofs.YtlinaijndlcfjaaDoor.Given
end Go.Proofs.YtlinaijndlcfjaaDoor.Given
namespace Go.Proofs.YtlinaijndlcfjaaDoor.All
open Go.Proofs.YtlinaijndlcfjaaDoor.Given
open Go.RowKit Go.Proofs.YtlinaijndlcfjaaDoorW.PrintWords Go.Proofs.YtlinaijndlcfjaaDoorW.PrintLast Go.Proofs.YtlinaijndlcfjaaDoorW.PrintMore
attribute [local go_sem] max2_int min2_int max_two min_two max_three min_three max_four min_four   -- for this text's walks alone
set_option linter.unusedVariables false
set_option linter.unusedSimpArgs false

/-! ### head_lay_uint32: function 21 -/
def head_lay_uint32.l0 : Nat → List Int → Int → Int → Int → Option (List Int)
  | 0, _, _, _, _ => none
  | k + 1, x0, x1, x7, x8 => if x8 < x7 then (if x0.length < 140737488355328 then (head_lay_uint32.l0 k (x0 ++ [(x1) % 256]) (x1 / 256) x7 (wrap64 (x8 + 1))) else (none)) else (some x0)
def head_lay_uint32.f (k : Nat) (l0 : List Int) (a1 : Int) (a2 : Int) : Option (List Int) := head_lay_uint32.l0 k l0 a1 a2 0
theorem head_lay_uint32.mono_l : ∀ k, (∀ y0 y1 y2 y3, LeO (head_lay_uint32.l0 k y0 y1 y2 y3) (head_lay_uint32.l0 (k + 1) y0 y1 y2 y3))
  | 0 => fun _ _ _ _ r h => by simp [head_lay_uint32.l0] at h
  | k + 1 => by
    have ih0 := head_lay_uint32.mono_l k
    · intro y0 y1 y2 y3
      unfold head_lay_uint32.l0
      repeat' first
      | (with_reducible exact ih0 _ _ _ _)
      | (with_reducible exact LeO.refl _)
      | (with_reducible exact LeO.none _)
      | (with_reducible refine LeO.ite ?_ ?_)
      | (with_reducible refine LeO.bind ?_ (fun _ => ?_))
      | exact ih0 _ _ _ _
      | exact LeO.none _
      | refine LeO.ite ?_ ?_
      | refine LeO.bind ?_ (fun _ => ?_)
theorem head_lay_uint32.mono : ∀ a0 a1 a2 k, LeO (head_lay_uint32.f k a0 a1 a2) (head_lay_uint32.f (k + 1) a0 a1 a2) := by
  intro a0 a1 a2 k
  have ih0 := head_lay_uint32.mono_l k
  unfold head_lay_uint32.f
  repeat' first
      | (with_reducible exact ih0 _ _ _ _)
      | (with_reducible exact LeO.refl _)
      | (with_reducible exact LeO.none _)
      | (with_reducible refine LeO.ite ?_ ?_)
      | (with_reducible refine LeO.bind ?_ (fun _ => ?_))
      | exact ih0 _ _ _ _
      | exact LeO.none _
      | refine LeO.ite ?_ ?_
      | refine LeO.bind ?_ (fun _ => ?_)
set_option maxHeartbeats 8000000 in
set_option maxRecDepth 100000 in
theorem head_lay_uint32.calls (k : Nat) (P0_ : Nat → Prop) (u9000_ : Value) (l0 : List Int) (a1 : Int) (a2 : Int) (r : List Int) (w0 w : World) (hB : Below w0.heap.size w0 w) (ho0 : Kd.R (Kd.int .u8) 5 w w0.heap.size P0_ u9000_ l0) (h : head_lay_uint32.f k l0 a1 a2 = some r) :
    Calls Tryd.prog 21 #[u9000_, .int .u32 a1, .int .i64 a2] w fun e w' => ∃ v0_ : Value, e = .returned (v0_) ∧ Kd.R (Kd.int .u8) 5 w' w0.heap.size (fun k_ => (P0_ k_ ∨ w.heap.size ≤ k_)) v0_ r ∧ Below w0.heap.size w0 w' ∧ Kept w w' (fun k_ => P0_ k_) := by
  have HO0 := Aside0.mk (show Kd.R (Kd.int .u8) 5 w w0.heap.size (fun k_ => (P0_ k_ ∨ w.heap.size ≤ k_)) u9000_ l0 from Kd.R_mono ho0 (fun k_ hk => (.inl hk)))
  have HK := Aside0.mk (Kept.refl w (fun k_ => P0_ k_))
  have HW0 := Aside0.mk hB.size
  have HB := Aside0.mk hB
  clear hB
  have H : (head_lay_uint32.l0 k l0 a1 a2 0) = some r := h
  clear h
  have H' := Aside0.mk H
  clear H
  go_enter Tryd.func21, Tryd.ntmps21
  go_wp2
  go_loopg [0, 1, 8] k (fun kq v0 v1 v8 w' => ∃ (x0_1 : List Int) (x1_1 : Int) (x8_1 : Int), v1 = .int .u32 x1_1 ∧ v8 = .int .i64 x8_1 ∧ Aside0 (head_lay_uint32.l0 kq x0_1 x1_1 a2 x8_1 = some r) ∧ Aside0 (kq ≤ k) ∧ Aside0 (Kd.R (Kd.int .u8) 5 w' w0.heap.size (fun k_ => (P0_ k_ ∨ w.heap.size ≤ k_)) v0 x0_1) ∧ Aside0 (Kept w w' (fun k_ => P0_ k_)) ∧ Aside0 (Below w0.heap.size w0 w'))
  case atStart => exact ⟨(l0), (a1), (0), (by first | rfl | (simp; done) | (simp [*]; done) | (simp; omega)), (by first | rfl | (simp; done) | (simp [*]; done) | (simp; omega)), H', ⟨Nat.le_refl _⟩, ⟨by (with_reducible repeat (first | apply Kd.R_alloc | apply Kd.R_drewN | apply Kd.R_drew)); exact HO0.out⟩, ⟨by repeat (first | (with_reducible first | exact HK.out | apply Kept.alloc | apply Kept.drewN | apply Kept.drew) | exact HK.out)⟩, ⟨by repeat (first | (with_reducible first | exact HB.out | apply below_alloc | apply pw_below_drewN | apply below_drew1) | exact HB.out)⟩⟩
  case round =>
    clear H'
    try clear c2
    try clear p2
    obtain ⟨x0_1, x1_1, x8_1, rfl, rfl, HA, HK1, HO_0, HK, HB⟩ := hrel
    cases gk with
    | zero => exact absurd HA.out (by simp [head_lay_uint32.l0])
    | succ k1 =>
      have H := HA.out
      clear HA
      simp only [head_lay_uint32.l0] at H
      by_cases c4 : x8_1 < a2
      · rw [if_pos c4] at H
        have c4b0 : decide (x8_1 < a2) = true := decide_eq_true c4
        clear c4
        by_cases c5 : x0_1.length < 140737488355328
        · rw [if_pos c5] at H
          have LMc5 := Aside0.mk c5
          clear c5
          obtain ⟨y119, hy119⟩ : ∃ y_ : List Int, y_ = (x0_1 ++ [(x1_1) % 256]) := ⟨_, rfl⟩
          replace H : (head_lay_uint32.l0 k1 y119 (x1_1 / 256) a2 (wrap64 (x8_1 + 1))) = some r := by first | (rw [hy119]; with_reducible exact H) | (have H2_ := (Option.bind_some _ _).symm.trans H; rw [hy119]; with_reducible exact H2_) | (have H2_ := (Option.bind_some _ _).symm.trans H; with_reducible exact H2_) | with_reducible exact H | (rw [hy119]; exact H) | exact H
          have Ny119 := Aside0.mk hy119
          clear hy119
          have H' := Aside0.mk H
          clear H
          go_wp2_with (first | ((with_reducible refine gate_builtin (b := .append) (xs := #[.tmp 10, .tmp 13]) rfl ?_); at_builtin; refine Kd.R_append (Kd.int .u8) (w0 := w0) w0.heap.size rfl (.tmp 10) (.tmp 13) 29 5 (.int .u8 0) 1 rfl Tryd.underlying29 info5 rfl (by decide) (by omega) u0 x0_1 ((x1_1) % 256) [.int .u8 ((x1_1) % 256)] (fun k_ => (P0_ k_ ∨ w.heap.size ≤ k_)) (fun _ => False) rfl rfl ?aP (fun _ hk => hk.elim) ?aF ?aO ?aB ?aS ?aL ?_; (case aP => exact rfl); (case aB => exact (by repeat (first | (with_reducible first | exact HB.out | apply below_alloc | apply pw_below_drewN | apply below_drew1) | exact HB.out))); (case aF => exact (fun k_ hk => (.inr (Nat.le_trans (by first | exact HK.out.1 | exact (show Kept w _ (fun k_ => P0_ k_) from by repeat (first | (with_reducible first | exact HK.out | apply Kept.alloc | apply Kept.drewN | apply Kept.drew) | exact HK.out)).1) hk)))); (case aO => exact (by (with_reducible repeat (first | apply Kd.R_alloc | apply Kd.R_drewN | apply Kd.R_drew)); exact HO_0.out)); (case aS => exact (below_size (by repeat (first | (with_reducible first | exact HB.out | apply below_alloc | apply pw_below_drewN | apply below_drew1) | exact HB.out)))); (case aL => have := LMc5.out; omega); intro v120 w6 ho hb hg hat; (first | rw [← Ny119.out] at ho | (simp only [Int.reduceToNat] at ho; rw [← Ny119.out] at ho)); have n0_ := Aside0.mk (hb); have n1_ := Aside0.mk (Kept.of_grown (S := (fun k_ => P0_ k_)) hg (by repeat (first | (with_reducible first | exact HK.out | apply Kept.alloc | apply Kept.drewN | apply Kept.drew) | exact HK.out)) (fun k_ e_ => (HO_0.out.1 k_ e_))); have n2_ := Aside0.mk (ho); clear HB; clear HK; clear HO_0; have HB := n0_; have HK := n1_; have HO121 := n2_; clear n0_ n1_ n2_; clear ho hb hg hat))
          go_roundg k1
          case measure => have := HK1.out; omega
          case rel => exact ⟨(y119), (x1_1 / 256), (wrap64 (x8_1 + 1)), (by first | rfl | (simp; done) | (simp [*]; done) | (simp; omega)), (by first | rfl | (simp; done) | (simp [*]; done) | (simp; omega)), H', ⟨by have := HK1.out; omega⟩, ⟨by (with_reducible repeat (first | apply Kd.R_alloc | apply Kd.R_drewN | apply Kd.R_drew)); exact HO121.out⟩, ⟨by repeat (first | (with_reducible first | exact HK.out | apply Kept.alloc | apply Kept.drewN | apply Kept.drew) | exact HK.out)⟩, ⟨by repeat (first | (with_reducible first | exact HB.out | apply below_alloc | apply pw_below_drewN | apply below_drew1) | exact HB.out)⟩⟩
        · rw [if_neg c5] at H
          exact absurd H (by simp)
      · rw [if_neg c4] at H
        have c4b0 : decide (x8_1 < a2) = false := decide_eq_false c4
        clear c4
        obtain rfl := Option.some.inj H
        go_wp2
        go_ret
        exact ⟨_, by first | rfl | (simp [errW_none, errW_some] <;> rfl) | (simp [*, errW_none, errW_some] <;> rfl), by (with_reducible repeat (first | apply Kd.R_alloc | apply Kd.R_drewN | apply Kd.R_drew)); exact HO_0.out, by repeat (first | (with_reducible first | exact HB.out | apply below_alloc | apply pw_below_drewN | apply below_drew1) | exact HB.out), by repeat (first | (with_reducible first | exact HK.out | apply Kept.alloc | apply Kept.drewN | apply Kept.drew) | exact HK.out)⟩

/-! ### head_lay_uint64: function 22 -/
def head_lay_uint64.l0 : Nat → List Int → Int → Int → Int → Option (List Int)
  | 0, _, _, _, _ => none
  | k + 1, x0, x1, x7, x8 => if x8 < x7 then (if x0.length < 140737488355328 then (head_lay_uint64.l0 k (x0 ++ [(x1) % 256]) (x1 / 256) x7 (wrap64 (x8 + 1))) else (none)) else (some x0)
def head_lay_uint64.f (k : Nat) (l0 : List Int) (a1 : Int) (a2 : Int) : Option (List Int) := head_lay_uint64.l0 k l0 a1 a2 0
theorem head_lay_uint64.mono_l : ∀ k, (∀ y0 y1 y2 y3, LeO (head_lay_uint64.l0 k y0 y1 y2 y3) (head_lay_uint64.l0 (k + 1) y0 y1 y2 y3))
  | 0 => fun _ _ _ _ r h => by simp [head_lay_uint64.l0] at h
  | k + 1 => by
    have ih0 := head_lay_uint64.mono_l k
    · intro y0 y1 y2 y3
      unfold head_lay_uint64.l0
      repeat' first
      | (with_reducible exact ih0 _ _ _ _)
      | (with_reducible exact LeO.refl _)
      | (with_reducible exact LeO.none _)
      | (with_reducible refine LeO.ite ?_ ?_)
      | (with_reducible refine LeO.bind ?_ (fun _ => ?_))
      | exact ih0 _ _ _ _
      | exact LeO.none _
      | refine LeO.ite ?_ ?_
      | refine LeO.bind ?_ (fun _ => ?_)
theorem head_lay_uint64.mono : ∀ a0 a1 a2 k, LeO (head_lay_uint64.f k a0 a1 a2) (head_lay_uint64.f (k + 1) a0 a1 a2) := by
  intro a0 a1 a2 k
  have ih0 := head_lay_uint64.mono_l k
  unfold head_lay_uint64.f
  repeat' first
      | (with_reducible exact ih0 _ _ _ _)
      | (with_reducible exact LeO.refl _)
      | (with_reducible exact LeO.none _)
      | (with_reducible refine LeO.ite ?_ ?_)
      | (with_reducible refine LeO.bind ?_ (fun _ => ?_))
      | exact ih0 _ _ _ _
      | exact LeO.none _
      | refine LeO.ite ?_ ?_
      | refine LeO.bind ?_ (fun _ => ?_)
set_option maxHeartbeats 8000000 in
set_option maxRecDepth 100000 in
theorem head_lay_uint64.calls (k : Nat) (P0_ : Nat → Prop) (u9000_ : Value) (l0 : List Int) (a1 : Int) (a2 : Int) (r : List Int) (w0 w : World) (hB : Below w0.heap.size w0 w) (ho0 : Kd.R (Kd.int .u8) 5 w w0.heap.size P0_ u9000_ l0) (h : head_lay_uint64.f k l0 a1 a2 = some r) :
    Calls Tryd.prog 22 #[u9000_, .int .u64 a1, .int .i64 a2] w fun e w' => ∃ v0_ : Value, e = .returned (v0_) ∧ Kd.R (Kd.int .u8) 5 w' w0.heap.size (fun k_ => (P0_ k_ ∨ w.heap.size ≤ k_)) v0_ r ∧ Below w0.heap.size w0 w' ∧ Kept w w' (fun k_ => P0_ k_) := by
  have HO0 := Aside0.mk (show Kd.R (Kd.int .u8) 5 w w0.heap.size (fun k_ => (P0_ k_ ∨ w.heap.size ≤ k_)) u9000_ l0 from Kd.R_mono ho0 (fun k_ hk => (.inl hk)))
  have HK := Aside0.mk (Kept.refl w (fun k_ => P0_ k_))
  have HW0 := Aside0.mk hB.size
  have HB := Aside0.mk hB
  clear hB
  have H : (head_lay_uint64.l0 k l0 a1 a2 0) = some r := h
  clear h
  have H' := Aside0.mk H
  clear H
  go_enter Tryd.func22, Tryd.ntmps22
  go_wp2
  go_loopg [0, 1, 8] k (fun kq v0 v1 v8 w' => ∃ (x0_1 : List Int) (x1_1 : Int) (x8_1 : Int), v1 = .int .u64 x1_1 ∧ v8 = .int .i64 x8_1 ∧ Aside0 (head_lay_uint64.l0 kq x0_1 x1_1 a2 x8_1 = some r) ∧ Aside0 (kq ≤ k) ∧ Aside0 (Kd.R (Kd.int .u8) 5 w' w0.heap.size (fun k_ => (P0_ k_ ∨ w.heap.size ≤ k_)) v0 x0_1) ∧ Aside0 (Kept w w' (fun k_ => P0_ k_)) ∧ Aside0 (Below w0.heap.size w0 w'))
  case atStart => exact ⟨(l0), (a1), (0), (by first | rfl | (simp; done) | (simp [*]; done) | (simp; omega)), (by first | rfl | (simp; done) | (simp [*]; done) | (simp; omega)), H', ⟨Nat.le_refl _⟩, ⟨by (with_reducible repeat (first | apply Kd.R_alloc | apply Kd.R_drewN | apply Kd.R_drew)); exact HO0.out⟩, ⟨by repeat (first | (with_reducible first | exact HK.out | apply Kept.alloc | apply Kept.drewN | apply Kept.drew) | exact HK.out)⟩, ⟨by repeat (first | (with_reducible first | exact HB.out | apply below_alloc | apply pw_below_drewN | apply below_drew1) | exact HB.out)⟩⟩
  case round =>
    clear H'
    try clear c2
    try clear p2
    obtain ⟨x0_1, x1_1, x8_1, rfl, rfl, HA, HK1, HO_0, HK, HB⟩ := hrel
    cases gk with
    | zero => exact absurd HA.out (by simp [head_lay_uint64.l0])
    | succ k1 =>
      have H := HA.out
      clear HA
      simp only [head_lay_uint64.l0] at H
      by_cases c4 : x8_1 < a2
      · rw [if_pos c4] at H
        have c4b0 : decide (x8_1 < a2) = true := decide_eq_true c4
        clear c4
        by_cases c5 : x0_1.length < 140737488355328
        · rw [if_pos c5] at H
          have LMc5 := Aside0.mk c5
          clear c5
          obtain ⟨y122, hy122⟩ : ∃ y_ : List Int, y_ = (x0_1 ++ [(x1_1) % 256]) := ⟨_, rfl⟩
          replace H : (head_lay_uint64.l0 k1 y122 (x1_1 / 256) a2 (wrap64 (x8_1 + 1))) = some r := by first | (rw [hy122]; with_reducible exact H) | (have H2_ := (Option.bind_some _ _).symm.trans H; rw [hy122]; with_reducible exact H2_) | (have H2_ := (Option.bind_some _ _).symm.trans H; with_reducible exact H2_) | with_reducible exact H | (rw [hy122]; exact H) | exact H
          have Ny122 := Aside0.mk hy122
          clear hy122
          have H' := Aside0.mk H
          clear H
          go_wp2_with (first | ((with_reducible refine gate_builtin (b := .append) (xs := #[.tmp 10, .tmp 13]) rfl ?_); at_builtin; refine Kd.R_append (Kd.int .u8) (w0 := w0) w0.heap.size rfl (.tmp 10) (.tmp 13) 29 5 (.int .u8 0) 1 rfl Tryd.underlying29 info5 rfl (by decide) (by omega) u0 x0_1 ((x1_1) % 256) [.int .u8 ((x1_1) % 256)] (fun k_ => (P0_ k_ ∨ w.heap.size ≤ k_)) (fun _ => False) rfl rfl ?aP (fun _ hk => hk.elim) ?aF ?aO ?aB ?aS ?aL ?_; (case aP => exact rfl); (case aB => exact (by repeat (first | (with_reducible first | exact HB.out | apply below_alloc | apply pw_below_drewN | apply below_drew1) | exact HB.out))); (case aF => exact (fun k_ hk => (.inr (Nat.le_trans (by first | exact HK.out.1 | exact (show Kept w _ (fun k_ => P0_ k_) from by repeat (first | (with_reducible first | exact HK.out | apply Kept.alloc | apply Kept.drewN | apply Kept.drew) | exact HK.out)).1) hk)))); (case aO => exact (by (with_reducible repeat (first | apply Kd.R_alloc | apply Kd.R_drewN | apply Kd.R_drew)); exact HO_0.out)); (case aS => exact (below_size (by repeat (first | (with_reducible first | exact HB.out | apply below_alloc | apply pw_below_drewN | apply below_drew1) | exact HB.out)))); (case aL => have := LMc5.out; omega); intro v123 w6 ho hb hg hat; (first | rw [← Ny122.out] at ho | (simp only [Int.reduceToNat] at ho; rw [← Ny122.out] at ho)); have n0_ := Aside0.mk (hb); have n1_ := Aside0.mk (Kept.of_grown (S := (fun k_ => P0_ k_)) hg (by repeat (first | (with_reducible first | exact HK.out | apply Kept.alloc | apply Kept.drewN | apply Kept.drew) | exact HK.out)) (fun k_ e_ => (HO_0.out.1 k_ e_))); have n2_ := Aside0.mk (ho); clear HB; clear HK; clear HO_0; have HB := n0_; have HK := n1_; have HO124 := n2_; clear n0_ n1_ n2_; clear ho hb hg hat))
          go_roundg k1
          case measure => have := HK1.out; omega
          case rel => exact ⟨(y122), (x1_1 / 256), (wrap64 (x8_1 + 1)), (by first | rfl | (simp; done) | (simp [*]; done) | (simp; omega)), (by first | rfl | (simp; done) | (simp [*]; done) | (simp; omega)), H', ⟨by have := HK1.out; omega⟩, ⟨by (with_reducible repeat (first | apply Kd.R_alloc | apply Kd.R_drewN | apply Kd.R_drew)); exact HO124.out⟩, ⟨by repeat (first | (with_reducible first | exact HK.out | apply Kept.alloc | apply Kept.drewN | apply Kept.drew) | exact HK.out)⟩, ⟨by repeat (first | (with_reducible first | exact HB.out | apply below_alloc | apply pw_below_drewN | apply below_drew1) | exact HB.out)⟩⟩
        · rw [if_neg c5] at H
          exact absurd H (by simp)
      · rw [if_neg c4] at H
        have c4b0 : decide (x8_1 < a2) = false := decide_eq_false c4
        clear c4
        obtain rfl := Option.some.inj H
        go_wp2
        go_ret
        exact ⟨_, by first | rfl | (simp [errW_none, errW_some] <;> rfl) | (simp [*, errW_none, errW_some] <;> rfl), by (with_reducible repeat (first | apply Kd.R_alloc | apply Kd.R_drewN | apply Kd.R_drew)); exact HO_0.out, by repeat (first | (with_reducible first | exact HB.out | apply below_alloc | apply pw_below_drewN | apply below_drew1) | exact HB.out), by repeat (first | (with_reducible first | exact HK.out | apply Kept.alloc | apply Kept.drewN | apply Kept.drew) | exact HK.out)⟩

/-! ### head_Encode: function 10 -/
def head_Encode.f (k : Nat) (a0_0 : Int) (a0_1 : Int) (a0_2 : Int) (a0_3 : Int) (a0_4 : Int) (a0_5 : Int) : Option (List Int × Int) := (head_right.f a0_0 a0_1 a0_2 a0_3 a0_4 a0_5).bind fun t126 => (if t126 = true then ((some (([75, 69, 69, 80] : List Int) : List Int)).bind fun y128 => ((some (([1, (a0_0) % 256, (a0_1) % 256, (a0_2) % 256] : List Int) : List Int)).bind fun y131 => (if y128.length + y131.length < 140737488355328 then ((head_lay_uint32.f k (y128 ++ y131) ((a0_3) % 4294967296) 4).bind fun t137 => ((head_lay_uint64.f k t137 a0_4 8).bind fun t140 => ((head_lay_uint32.f k t140 a0_5 4).bind fun t143 => ((crc_Sum.f k t143).bind fun t146 => ((head_lay_uint32.f k t143 t146 4).bind fun t147 => (some (t147, 0))))))) else (none)))) else (some (([] : List Int), 9)))
theorem head_Encode.mono : ∀ a0 a1 a2 a3 a4 a5 k, LeO (head_Encode.f k a0 a1 a2 a3 a4 a5) (head_Encode.f (k + 1) a0 a1 a2 a3 a4 a5) := by
  intro a0 a1 a2 a3 a4 a5 k
  unfold head_Encode.f
  repeat' first
      | (with_reducible exact crc_Sum.mono _ _)
      | (with_reducible exact head_lay_uint32.mono _ _ _ _)
      | (with_reducible exact head_lay_uint64.mono _ _ _ _)
      | (with_reducible exact LeO.refl _)
      | (with_reducible exact LeO.none _)
      | (with_reducible refine LeO.ite ?_ ?_)
      | (with_reducible refine LeO.bind ?_ (fun _ => ?_))
      | exact crc_Sum.mono _ _
      | exact head_lay_uint32.mono _ _ _ _
      | exact head_lay_uint64.mono _ _ _ _
      | exact LeO.none _
      | refine LeO.ite ?_ ?_
      | refine LeO.bind ?_ (fun _ => ?_)
set_option maxHeartbeats 8000000 in
set_option maxRecDepth 100000 in
theorem head_Encode.calls (k : Nat) (a0_0 : Int) (a0_1 : Int) (a0_2 : Int) (a0_3 : Int) (a0_4 : Int) (a0_5 : Int) (r1 : List Int) (r2 : Int) (w : World) (hG : Laid w) (h : head_Encode.f k a0_0 a0_1 a0_2 a0_3 a0_4 a0_5 = some (r1, r2)) :
    Calls Tryd.prog 10 #[.agg #[.int .i64 a0_0, .int .i64 a0_1, .int .i64 a0_2, .int .i64 a0_3, .int .u64 a0_4, .int .u32 a0_5]] w fun e w' => ∃ v0_ : Value, e = .returned (.tuple #[v0_, .int .i64 r2]) ∧ Kd.R (Kd.int .u8) 5 w' w.heap.size (fun _ => True) v0_ r1 ∧ Below w.heap.size w w' := by
  have HG := Aside0.mk hG
  clear hG
  have hu27 := Tryd.underlying27
  have hu23 := Tryd.underlying23
  have HB := Aside0.mk (Below.refl w.heap.size w)
  have H : ((head_right.f a0_0 a0_1 a0_2 a0_3 a0_4 a0_5).bind fun t126 => (if t126 = true then ((some (([75, 69, 69, 80] : List Int) : List Int)).bind fun y128 => ((some (([1, (a0_0) % 256, (a0_1) % 256, (a0_2) % 256] : List Int) : List Int)).bind fun y131 => (if y128.length + y131.length < 140737488355328 then ((head_lay_uint32.f k (y128 ++ y131) ((a0_3) % 4294967296) 4).bind fun t137 => ((head_lay_uint64.f k t137 a0_4 8).bind fun t140 => ((head_lay_uint32.f k t140 a0_5 4).bind fun t143 => ((crc_Sum.f k t143).bind fun t146 => ((head_lay_uint32.f k t143 t146 4).bind fun t147 => (some (t147, 0))))))) else (none)))) else (some (([] : List Int), 9)))) = some (r1, r2) := h
  clear h
  replace H := Option.bind_eq_some_iff.mp H
  obtain ⟨t126, A20, H⟩ := H
  replace H : (if t126 = true then ((some (([75, 69, 69, 80] : List Int) : List Int)).bind fun y128 => ((some (([1, (a0_0) % 256, (a0_1) % 256, (a0_2) % 256] : List Int) : List Int)).bind fun y131 => (if y128.length + y131.length < 140737488355328 then ((head_lay_uint32.f k (y128 ++ y131) ((a0_3) % 4294967296) 4).bind fun t137 => ((head_lay_uint64.f k t137 a0_4 8).bind fun t140 => ((head_lay_uint32.f k t140 a0_5 4).bind fun t143 => ((crc_Sum.f k t143).bind fun t146 => ((head_lay_uint32.f k t143 t146 4).bind fun t147 => (some (t147, 0))))))) else (none)))) else (some (([] : List Int), 9))) = some (r1, r2) := H
  have A2 := Aside0.mk A20
  clear A20
  by_cases c3 : t126 = true
  · subst c3
    have H1 : ((some (([75, 69, 69, 80] : List Int) : List Int)).bind fun y128 => ((some (([1, (a0_0) % 256, (a0_1) % 256, (a0_2) % 256] : List Int) : List Int)).bind fun y131 => (if y128.length + y131.length < 140737488355328 then ((head_lay_uint32.f k (y128 ++ y131) ((a0_3) % 4294967296) 4).bind fun t137 => ((head_lay_uint64.f k t137 a0_4 8).bind fun t140 => ((head_lay_uint32.f k t140 a0_5 4).bind fun t143 => ((crc_Sum.f k t143).bind fun t146 => ((head_lay_uint32.f k t143 t146 4).bind fun t147 => (some (t147, 0))))))) else (none)))) = some (r1, r2) := by rw [if_pos rfl] at H; exact H
    clear H
    have H := H1
    clear H1
    obtain ⟨y128, hy128⟩ : ∃ y_ : List Int, y_ = (([75, 69, 69, 80] : List Int)) := ⟨_, rfl⟩
    replace H : ((some (([1, (a0_0) % 256, (a0_1) % 256, (a0_2) % 256] : List Int) : List Int)).bind fun y131 => (if y128.length + y131.length < 140737488355328 then ((head_lay_uint32.f k (y128 ++ y131) ((a0_3) % 4294967296) 4).bind fun t137 => ((head_lay_uint64.f k t137 a0_4 8).bind fun t140 => ((head_lay_uint32.f k t140 a0_5 4).bind fun t143 => ((crc_Sum.f k t143).bind fun t146 => ((head_lay_uint32.f k t143 t146 4).bind fun t147 => (some (t147, 0))))))) else (none))) = some (r1, r2) := by first | (rw [hy128]; with_reducible exact H) | (have H2_ := (Option.bind_some _ _).symm.trans H; rw [hy128]; with_reducible exact H2_) | (have H2_ := (Option.bind_some _ _).symm.trans H; with_reducible exact H2_) | with_reducible exact H | (rw [hy128]; exact H) | exact H
    have Ny128 := Aside0.mk hy128
    clear hy128
    obtain ⟨y131, hy131⟩ : ∃ y_ : List Int, y_ = (([1, (a0_0) % 256, (a0_1) % 256, (a0_2) % 256] : List Int)) := ⟨_, rfl⟩
    replace H : (if y128.length + y131.length < 140737488355328 then ((head_lay_uint32.f k (y128 ++ y131) ((a0_3) % 4294967296) 4).bind fun t137 => ((head_lay_uint64.f k t137 a0_4 8).bind fun t140 => ((head_lay_uint32.f k t140 a0_5 4).bind fun t143 => ((crc_Sum.f k t143).bind fun t146 => ((head_lay_uint32.f k t143 t146 4).bind fun t147 => (some (t147, 0))))))) else (none)) = some (r1, r2) := by first | (rw [hy131]; with_reducible exact H) | (have H2_ := (Option.bind_some _ _).symm.trans H; rw [hy131]; with_reducible exact H2_) | (have H2_ := (Option.bind_some _ _).symm.trans H; with_reducible exact H2_) | with_reducible exact H | (rw [hy131]; exact H) | exact H
    have Ny131 := Aside0.mk hy131
    clear hy131
    by_cases c4 : y128.length + y131.length < 140737488355328
    · rw [if_pos c4] at H
      have LMc4 := Aside0.mk c4
      clear c4
      obtain ⟨y134, hy134⟩ : ∃ y_ : List Int, y_ = (y128 ++ y131) := ⟨_, rfl⟩
      replace H : ((head_lay_uint32.f k y134 ((a0_3) % 4294967296) 4).bind fun t137 => ((head_lay_uint64.f k t137 a0_4 8).bind fun t140 => ((head_lay_uint32.f k t140 a0_5 4).bind fun t143 => ((crc_Sum.f k t143).bind fun t146 => ((head_lay_uint32.f k t143 t146 4).bind fun t147 => (some (t147, 0))))))) = some (r1, r2) := by first | (rw [hy134]; with_reducible exact H) | (have H2_ := (Option.bind_some _ _).symm.trans H; rw [hy134]; with_reducible exact H2_) | (have H2_ := (Option.bind_some _ _).symm.trans H; with_reducible exact H2_) | with_reducible exact H | (rw [hy134]; exact H) | exact H
      have Ny134 := Aside0.mk hy134
      clear hy134
      replace H := Option.bind_eq_some_iff.mp H
      obtain ⟨t137, A50, H⟩ := H
      replace H : ((head_lay_uint64.f k t137 a0_4 8).bind fun t140 => ((head_lay_uint32.f k t140 a0_5 4).bind fun t143 => ((crc_Sum.f k t143).bind fun t146 => ((head_lay_uint32.f k t143 t146 4).bind fun t147 => (some (t147, 0)))))) = some (r1, r2) := H
      have A5 := Aside0.mk A50
      clear A50
      replace H := Option.bind_eq_some_iff.mp H
      obtain ⟨t140, A60, H⟩ := H
      replace H : ((head_lay_uint32.f k t140 a0_5 4).bind fun t143 => ((crc_Sum.f k t143).bind fun t146 => ((head_lay_uint32.f k t143 t146 4).bind fun t147 => (some (t147, 0))))) = some (r1, r2) := H
      have A6 := Aside0.mk A60
      clear A60
      replace H := Option.bind_eq_some_iff.mp H
      obtain ⟨t143, A70, H⟩ := H
      replace H : ((crc_Sum.f k t143).bind fun t146 => ((head_lay_uint32.f k t143 t146 4).bind fun t147 => (some (t147, 0)))) = some (r1, r2) := H
      have A7 := Aside0.mk A70
      clear A70
      replace H := Option.bind_eq_some_iff.mp H
      obtain ⟨t146, A80, H⟩ := H
      replace H : ((head_lay_uint32.f k t143 t146 4).bind fun t147 => (some (t147, 0))) = some (r1, r2) := H
      have A8 := Aside0.mk A80
      clear A80
      replace H := Option.bind_eq_some_iff.mp H
      obtain ⟨t147, A90, H⟩ := H
      replace H : (some (t147, 0)) = some (r1, r2) := H
      have A9 := Aside0.mk A90
      clear A90
      simp only [Option.some.injEq, Prod.mk.injEq] at H
      obtain ⟨rfl, rfl⟩ := H
      go_enter Tryd.func10, Tryd.ntmps10
      go_wp2_with (first | ((with_reducible refine gate_dst (N := 1) rfl ?_); refine box_event ?hg (N := 1) ?hd (cs := #[.int .i64 a0_0, .int .i64 a0_1, .int .i64 a0_2, .int .i64 a0_3, .int .u64 a0_4, .int .u32 a0_5]) (t := 27) ?hr ?_; (case hd => rfl); (case hg => rfl); (case hr => first | (go_simp; done) | (go_simp; rfl)); intro gb125 hg w10 hbox hb; have n0_ := Aside0.mk (below_step (by repeat (first | (with_reducible first | exact HB.out | apply below_alloc | apply pw_below_drewN | apply below_drew1) | exact HB.out)) hb); have n1_ := Aside0.mk (hbox); have n2_ := Aside0.mk ((by rw [hg]; exact (below_size (by repeat (first | (with_reducible first | exact HB.out | apply below_alloc | apply pw_below_drewN | apply below_drew1) | exact HB.out))) : w.heap.size ≤ gb125)); have n3_ := Aside0.mk ((by rw [hg]; exact (below_size (by repeat (first | (with_reducible first | exact HB.out | apply below_alloc | apply pw_below_drewN | apply below_drew1) | exact HB.out))) : w.heap.size ≤ gb125)); clear HB; have HB := n0_; have BK125 := n1_; have GW125 := n2_; have GE125 := n3_; clear n0_ n1_ n2_ n3_; clear hb hbox hg; have hcz11_0 : w10.cell? ⟨gb125, 0, none⟩ = some (.int .i64 a0_0) := (blk_cell BK125.out 0).trans rfl; have hcz11_1 : w10.cell? ⟨gb125, 1, none⟩ = some (.int .i64 a0_1) := (blk_cell BK125.out 1).trans rfl; have hcz11_2 : w10.cell? ⟨gb125, 2, none⟩ = some (.int .i64 a0_2) := (blk_cell BK125.out 2).trans rfl; have hcz11_3 : w10.cell? ⟨gb125, 3, none⟩ = some (.int .i64 a0_3) := (blk_cell BK125.out 3).trans rfl; have hcz11_4 : w10.cell? ⟨gb125, 4, none⟩ = some (.int .u64 a0_4) := (blk_cell BK125.out 4).trans rfl; have hcz11_5 : w10.cell? ⟨gb125, 5, none⟩ = some (.int .u32 a0_5) := (blk_cell BK125.out 5).trans rfl; have hfz11_0 := blk_frozen BK125.out 0; have hfz11_1 := blk_frozen BK125.out 1; have hfz11_2 := blk_frozen BK125.out 2; have hfz11_3 := blk_frozen BK125.out 3; have hfz11_4 := blk_frozen BK125.out 4; have hfz11_5 := blk_frozen BK125.out 5) | ((with_reducible refine gate_callee (f := 20) rfl ?_); refine goesL_ (some 7) rfl rfl Tryd.func20 (by kernel_rfl) rfl #[.agg #[.int .i64 a0_0, .int .i64 a0_1, .int .i64 a0_2, .int .i64 a0_3, .int .u64 a0_4, .int .u32 a0_5]] rfl (by (try simp only [List.map_toArray, List.map_cons, List.map_nil]); first | done | rfl | (simp only [List.length_drop, List.length_take]; rfl)) ?_; (with_reducible refine (head_right.calls a0_0 a0_1 a0_2 a0_3 a0_4 a0_5 true _ ?sideG A2.out).mono ?_); (case sideG => first | exact Laid.below HG.out (by repeat (first | (with_reducible first | exact HB.out | apply below_alloc | apply pw_below_drewN | apply below_drew1 | refine below_set ?_ GE125.out) | exact HB.out)) | repeat (first | exact Laid.below HG.out HB.out | exact HG.out | (with_reducible refine Laid.alloc ?_ _) | (with_reducible refine Laid.drewN ?_ _) | (with_reducible refine Laid.drew ?_))); rintro e w12 ⟨rfl, hb⟩; refine ⟨_, rfl, ?_⟩; have n0_ := Aside0.mk (blk_below (g := gb125) (o := .cells #[.int .i64 a0_0, .int .i64 a0_1, .int .i64 a0_2, .int .i64 a0_3, .int .u64 a0_4, .int .u32 a0_5] 27 (0, 0)) (by (with_reducible repeat (first | refine blk_drewN ?_ _ | refine blk_drew ?_ | refine blk_alloc ?_ _)); exact BK125.out) hb); have n1_ := Aside0.mk (below_step (by repeat (first | (with_reducible first | exact HB.out | apply below_alloc | apply pw_below_drewN | apply below_drew1 | refine below_set ?_ GE125.out) | exact HB.out)) hb); clear BK125; clear HB; have BK125 := n0_; have HB := n1_; clear n0_ n1_; (try clear hb); (try clear hb2); (try clear hk); (try clear hi); have hcz13_0 : w12.cell? ⟨gb125, 0, none⟩ = some (.int .i64 a0_0) := (blk_cell BK125.out 0).trans rfl; have hcz13_1 : w12.cell? ⟨gb125, 1, none⟩ = some (.int .i64 a0_1) := (blk_cell BK125.out 1).trans rfl; have hcz13_2 : w12.cell? ⟨gb125, 2, none⟩ = some (.int .i64 a0_2) := (blk_cell BK125.out 2).trans rfl; have hcz13_3 : w12.cell? ⟨gb125, 3, none⟩ = some (.int .i64 a0_3) := (blk_cell BK125.out 3).trans rfl; have hcz13_4 : w12.cell? ⟨gb125, 4, none⟩ = some (.int .u64 a0_4) := (blk_cell BK125.out 4).trans rfl; have hcz13_5 : w12.cell? ⟨gb125, 5, none⟩ = some (.int .u32 a0_5) := (blk_cell BK125.out 5).trans rfl; have hfz13_0 := blk_frozen BK125.out 0; have hfz13_1 := blk_frozen BK125.out 1; have hfz13_2 := blk_frozen BK125.out 2; have hfz13_3 := blk_frozen BK125.out 3; have hfz13_4 := blk_frozen BK125.out 4; have hfz13_5 := blk_frozen BK125.out 5) | ((with_reducible refine gate_dst (N := 4) rfl ?_); refine box_event ?hg (N := 4) ?hd (cs := #[.int .i64 0, .int .i64 0, .int .i64 0]) (t := 23) ?hr ?_; (case hd => rfl); (case hg => rfl); (case hr => first | (go_simp; done) | (go_simp; rfl)); intro gb127 hg w14 hbox hb; have n0_ := Aside0.mk (blk_below (g := gb125) (o := .cells #[.int .i64 a0_0, .int .i64 a0_1, .int .i64 a0_2, .int .i64 a0_3, .int .u64 a0_4, .int .u32 a0_5] 27 (0, 0)) (by (with_reducible repeat (first | refine blk_drewN ?_ _ | refine blk_drew ?_ | refine blk_alloc ?_ _)); exact BK125.out) hb); have n1_ := Aside0.mk (below_step (by repeat (first | (with_reducible first | exact HB.out | apply below_alloc | apply pw_below_drewN | apply below_drew1 | refine below_set ?_ GE125.out) | exact HB.out)) hb); have n2_ := Aside0.mk (hbox); have n3_ := Aside0.mk ((by rw [hg]; exact (below_size (by repeat (first | (with_reducible first | exact HB.out | apply below_alloc | apply pw_below_drewN | apply below_drew1 | refine below_set ?_ GE125.out) | exact HB.out))) : w.heap.size ≤ gb127)); have n4_ := Aside0.mk ((by rw [hg]; exact (below_size (by repeat (first | (with_reducible first | exact HB.out | apply below_alloc | apply pw_below_drewN | apply below_drew1 | refine below_set ?_ GE125.out) | exact HB.out))) : w.heap.size ≤ gb127)); have n5_ := Aside0.mk ((by rw [hg]; exact Nat.ne_of_lt (blk_lt (g := gb125) (o := .cells #[.int .i64 a0_0, .int .i64 a0_1, .int .i64 a0_2, .int .i64 a0_3, .int .u64 a0_4, .int .u32 a0_5] 27 (0, 0)) (by (with_reducible repeat (first | refine blk_drewN ?_ _ | refine blk_drew ?_ | refine blk_alloc ?_ _)); exact BK125.out)) : gb125 ≠ gb127)); have n6_ := Aside0.mk ((by rw [hg]; exact Nat.ne_of_gt (blk_lt (g := gb125) (o := .cells #[.int .i64 a0_0, .int .i64 a0_1, .int .i64 a0_2, .int .i64 a0_3, .int .u64 a0_4, .int .u32 a0_5] 27 (0, 0)) (by (with_reducible repeat (first | refine blk_drewN ?_ _ | refine blk_drew ?_ | refine blk_alloc ?_ _)); exact BK125.out)) : gb127 ≠ gb125)); clear BK125; clear HB; have BK125 := n0_; have HB := n1_; have BK127 := n2_; have GW127 := n3_; have GE127 := n4_; have NB125_127 := n5_; have NB127_125 := n6_; clear n0_ n1_ n2_ n3_ n4_ n5_ n6_; clear hb hbox hg; have hnb15 := NB127_125.out; have hnc15 := NB125_127.out; have hcz16_0 : w14.cell? ⟨gb127, 0, none⟩ = some (.int .i64 0) := (blk_cell BK127.out 0).trans rfl; have hcz16_1 : w14.cell? ⟨gb127, 1, none⟩ = some (.int .i64 0) := (blk_cell BK127.out 1).trans rfl; have hcz16_2 : w14.cell? ⟨gb127, 2, none⟩ = some (.int .i64 0) := (blk_cell BK127.out 2).trans rfl; have hfz16_0 := blk_frozen BK127.out 0; have hfz16_1 := blk_frozen BK127.out 1; have hfz16_2 := blk_frozen BK127.out 2) | ((with_reducible refine gate_dst (N := 11) rfl ?_); refine lit_const ?hg (N := 11) ?hd (cs := (([75, 69, 69, 80] : List Int).map (Value.int .u8)).toArray) (t := 29) (e := 5) (n := 4) Tryd.underlying29 Tryd.underlying5 ?hr ?_; (case hd => rfl); (case hg => rfl); (case hr => first | (go_simp; done) | (go_simp; rfl)); intro gm_ hgm_ w17c w17 hcv_ hm_ hb; clear hgm_; have n0_ := Aside0.mk (hm_); have n1_ := Aside0.mk (blk_below (g := gb125) (o := .cells #[.int .i64 a0_0, .int .i64 a0_1, .int .i64 a0_2, .int .i64 a0_3, .int .u64 a0_4, .int .u32 a0_5] 27 (0, 0)) (by (with_reducible repeat (first | refine blk_drewN ?_ _ | refine blk_drew ?_ | refine blk_alloc ?_ _)); refine blk_far ?_ NB125_127.out _; (with_reducible repeat (first | refine blk_drewN ?_ _ | refine blk_drew ?_ | refine blk_alloc ?_ _)); refine blk_far ?_ NB125_127.out _; (with_reducible repeat (first | refine blk_drewN ?_ _ | refine blk_drew ?_ | refine blk_alloc ?_ _)); refine blk_far ?_ NB125_127.out _; (with_reducible repeat (first | refine blk_drewN ?_ _ | refine blk_drew ?_ | refine blk_alloc ?_ _)); exact BK125.out) hb); have n2_ := Aside0.mk (blk_below (g := gb127) (o := .cells #[.int .i64 a0_0, .int .i64 a0_1, .int .i64 a0_2] 23 (0, 0)) (by (with_reducible repeat (first | refine blk_drewN ?_ _ | refine blk_drew ?_ | refine blk_alloc ?_ _)); refine blk_put (cs := #[.int .i64 a0_0, .int .i64 a0_1, .int .i64 0]) ?_ 2 _ rfl; (with_reducible repeat (first | refine blk_drewN ?_ _ | refine blk_drew ?_ | refine blk_alloc ?_ _)); refine blk_put (cs := #[.int .i64 a0_0, .int .i64 0, .int .i64 0]) ?_ 1 _ rfl; (with_reducible repeat (first | refine blk_drewN ?_ _ | refine blk_drew ?_ | refine blk_alloc ?_ _)); refine blk_put (cs := #[.int .i64 0, .int .i64 0, .int .i64 0]) ?_ 0 _ rfl; (with_reducible repeat (first | refine blk_drewN ?_ _ | refine blk_drew ?_ | refine blk_alloc ?_ _)); exact BK127.out) hb); have n3_ := Aside0.mk (below_step (by repeat (first | (with_reducible first | exact HB.out | apply below_alloc | apply pw_below_drewN | apply below_drew1 | refine below_set ?_ GE125.out | refine below_set ?_ GE127.out) | exact HB.out)) hb); clear BK125; clear BK127; clear HB; have HO130 := n0_; have BK125 := n1_; have BK127 := n2_; have HB := n3_; clear n0_ n1_ n2_ n3_; clear hb hm_; have hcz19_0 : w17.cell? ⟨gb127, 0, none⟩ = some (.int .i64 a0_0) := (blk_cell BK127.out 0).trans rfl; have hcz19_1 : w17.cell? ⟨gb127, 1, none⟩ = some (.int .i64 a0_1) := (blk_cell BK127.out 1).trans rfl; have hcz19_2 : w17.cell? ⟨gb127, 2, none⟩ = some (.int .i64 a0_2) := (blk_cell BK127.out 2).trans rfl; have hfz19_0 := blk_frozen BK127.out 0; have hfz19_1 := blk_frozen BK127.out 1; have hfz19_2 := blk_frozen BK127.out 2) | ((with_reducible refine gate_dst (N := 22) rfl ?_); refine Kd.R_lit (Kd.int .u8) _ 5 ?hg (N := 22) ?hd (xs := ([1, (a0_0) % 256, (a0_1) % 256, (a0_2) % 256] : List Int)) (inner := [.int .u8 1, .int .u8 ((a0_0) % 256), .int .u8 ((a0_1) % 256), .int .u8 ((a0_2) % 256)]) (ok := fun _ => True) (okp := fun _ => True) ?hr ?hp (fun _ hk => hk) trivial (Below.refl _ _) (Nat.le_refl _) (by simp) ?_; (case hd => rfl); (case hg => rfl); (case hr => first | (go_simp; done) | (go_simp; rfl)); (case hp => exact (Reps.one (show Kd.M (Kd.int .u8) _ _ _ 1 [.int .u8 1] from rfl) (Reps.one (show Kd.M (Kd.int .u8) _ _ _ ((a0_0) % 256) [.int .u8 ((a0_0) % 256)] from rfl) (Reps.one (show Kd.M (Kd.int .u8) _ _ _ ((a0_1) % 256) [.int .u8 ((a0_1) % 256)] from rfl) (Reps.one (show Kd.M (Kd.int .u8) _ _ _ ((a0_2) % 256) [.int .u8 ((a0_2) % 256)] from rfl) (Reps.none _ _)))))); intro v132 w20 ho21 hb hg_ hnew_; clear hg_ hnew_; (first | rw [← Ny131.out] at ho21 | (simp only [Int.reduceToNat] at ho21; rw [← Ny131.out] at ho21)); have n0_ := Aside0.mk (blk_below HO130.out hb); have n1_ := Aside0.mk (Kd.R_lower (R_newm (n := 4) (c := 4) ho21 (blk_lt HO130.out)) (below_size (by repeat (first | (with_reducible first | exact HB.out | apply below_alloc | apply pw_below_drewN | apply below_drew1 | refine below_set ?_ GE125.out | refine below_set ?_ GE127.out) | exact HB.out)))); have n2_ := Aside0.mk (blk_below (g := gb125) (o := .cells #[.int .i64 a0_0, .int .i64 a0_1, .int .i64 a0_2, .int .i64 a0_3, .int .u64 a0_4, .int .u32 a0_5] 27 (0, 0)) (by (with_reducible repeat (first | refine blk_drewN ?_ _ | refine blk_drew ?_ | refine blk_alloc ?_ _)); exact BK125.out) hb); have n3_ := Aside0.mk (blk_below (g := gb127) (o := .cells #[.int .i64 a0_0, .int .i64 a0_1, .int .i64 a0_2] 23 (0, 0)) (by (with_reducible repeat (first | refine blk_drewN ?_ _ | refine blk_drew ?_ | refine blk_alloc ?_ _)); exact BK127.out) hb); have n4_ := Aside0.mk (below_step (by repeat (first | (with_reducible first | exact HB.out | apply below_alloc | apply pw_below_drewN | apply below_drew1 | refine below_set ?_ GE125.out | refine below_set ?_ GE127.out) | exact HB.out)) hb); clear HO130; clear BK125; clear BK127; clear HB; have HO130 := n0_; have HO133 := n1_; have BK125 := n2_; have BK127 := n3_; have HB := n4_; clear n0_ n1_ n2_ n3_ n4_; clear hb ho21; obtain ⟨Ao23, co23, eo23⟩ := Kd.R_slice HO133.out; subst eo23) | ((with_reducible refine gate_builtin (b := .append) (xs := #[.tmp 12, .tmp 22]) rfl ?_); at_builtin; refine append_const (w0 := w) w.heap.size rfl (.tmp 12) (.tmp 22) 29 5 rfl Tryd.underlying29 info5 gm_ (4, 5) ([75, 69, 69, 80] : List Int) y131 _ _ _ (fun k_ => some k_ ≠ (.slice Ao23 y131.length co23 : Value).ownBlock) rfl rfl ?aM ?aR ?aP ?aF ?aB ?aS ?aL ?_; (case aM => exact HO130.out); (case aP => rw [Ny131.out]; simp); (case aR => repeat (first | exact (Kd.R_reads' HO133.out).2.2 | (with_reducible refine Kd.C_alloc ?_ _) | (with_reducible refine Kd.C_drewN ?_ _) | (with_reducible refine Kd.C_drew ?_))); (case aB => exact (by repeat (first | (with_reducible first | exact HB.out | apply below_alloc | apply pw_below_drewN | apply below_drew1 | refine below_set ?_ GE125.out | refine below_set ?_ GE127.out) | exact HB.out))); (case aF => exact (fun k_ hk => Kd.fresh' (Kd.R_lt (by (with_reducible repeat (first | apply Kd.R_alloc | apply Kd.R_drewN | apply Kd.R_drew)); exact HO133.out)) k_ hk)); (case aS => exact (below_size (by repeat (first | (with_reducible first | exact HB.out | apply below_alloc | apply pw_below_drewN | apply below_drew1 | refine below_set ?_ GE125.out | refine below_set ?_ GE127.out) | exact HB.out)))); (case aL => rw [Ny131.out]; simp); intro v135 w22 ho hb hg hat; rw [← Ny128.out] at ho; (first | rw [← Ny134.out] at ho | (simp only [Int.reduceToNat] at ho; rw [← Ny134.out] at ho)); have n0_ := Aside0.mk (blk_grown (g := gb125) (o := .cells #[.int .i64 a0_0, .int .i64 a0_1, .int .i64 a0_2, .int .i64 a0_3, .int .u64 a0_4, .int .u32 a0_5] 27 (0, 0)) (by (with_reducible repeat (first | refine blk_drewN ?_ _ | refine blk_drew ?_ | refine blk_alloc ?_ _)); exact BK125.out) hg (marked_ne HO130.out BK125.out (by decide))); have n1_ := Aside0.mk (blk_grown (g := gb127) (o := .cells #[.int .i64 a0_0, .int .i64 a0_1, .int .i64 a0_2] 23 (0, 0)) (by (with_reducible repeat (first | refine blk_drewN ?_ _ | refine blk_drew ?_ | refine blk_alloc ?_ _)); exact BK127.out) hg (marked_ne HO130.out BK127.out (by decide))); have n2_ := Aside0.mk (Kd.R_after (ok := (fun _ => True)) (by (with_reducible repeat (first | apply Kd.R_alloc | apply Kd.R_drewN | apply Kd.R_drew)); exact HO133.out) hg hat); have n3_ := Aside0.mk (hb); have n4_ := Aside0.mk (ho); clear BK125; clear BK127; clear HO133; clear HB; clear HO130; have BK125 := n0_; have BK127 := n1_; have HO133 := n2_; have HB := n3_; have HO136 := n4_; clear n0_ n1_ n2_ n3_ n4_; clear ho hb hg hat; have hcz24_0 : w22.cell? ⟨gb125, 0, none⟩ = some (.int .i64 a0_0) := (blk_cell BK125.out 0).trans rfl; have hcz24_1 : w22.cell? ⟨gb125, 1, none⟩ = some (.int .i64 a0_1) := (blk_cell BK125.out 1).trans rfl; have hcz24_2 : w22.cell? ⟨gb125, 2, none⟩ = some (.int .i64 a0_2) := (blk_cell BK125.out 2).trans rfl; have hcz24_3 : w22.cell? ⟨gb125, 3, none⟩ = some (.int .i64 a0_3) := (blk_cell BK125.out 3).trans rfl; have hcz24_4 : w22.cell? ⟨gb125, 4, none⟩ = some (.int .u64 a0_4) := (blk_cell BK125.out 4).trans rfl; have hcz24_5 : w22.cell? ⟨gb125, 5, none⟩ = some (.int .u32 a0_5) := (blk_cell BK125.out 5).trans rfl; have hfz24_0 := blk_frozen BK125.out 0; have hfz24_1 := blk_frozen BK125.out 1; have hfz24_2 := blk_frozen BK125.out 2; have hfz24_3 := blk_frozen BK125.out 3; have hfz24_4 := blk_frozen BK125.out 4; have hfz24_5 := blk_frozen BK125.out 5; obtain ⟨Ao25, co25, eo25⟩ := Kd.R_slice HO136.out; subst eo25) | ((with_reducible refine gate_callee (f := 21) rfl ?_); refine goesL_ (some 28) rfl rfl Tryd.func21 (by kernel_rfl) rfl #[.slice Ao25 y134.length co25, .int .u32 ((a0_3) % 4294967296), .int .i64 4] rfl (by (try simp only [List.map_toArray, List.map_cons, List.map_nil]); first | done | rfl | (simp only [List.length_drop, List.length_take]; rfl)) ?_; (with_reducible refine (head_lay_uint32.calls k (fun k_ => some k_ = (.slice Ao25 y134.length co25 : Value).ownBlock) (.slice Ao25 y134.length co25) y134 ((a0_3) % 4294967296) 4 t137 w _ ?side1 ?side2 A5.out).mono ?_); (case side1 => repeat (first | (with_reducible first | exact HB.out | apply below_alloc | apply pw_below_drewN | apply below_drew1 | refine below_set ?_ GE125.out | refine below_set ?_ GE127.out) | exact HB.out)); (case side2 => exact Kd.R_tight rfl HO136.out); rintro e w26 ⟨v138, rfl, ho0, hb, hkp⟩; refine ⟨_, rfl, ?_⟩; have n0_ := Aside0.mk (blk_kept (by (with_reducible repeat (first | refine blk_drewN ?_ _ | refine blk_drew ?_ | refine blk_alloc ?_ _)); exact BK125.out) hkp (fun hs_ => (fun e_ => (Kd.R_ne HO136.out BK125.out (by decide)) e_) hs_)); have n1_ := Aside0.mk (blk_kept (by (with_reducible repeat (first | refine blk_drewN ?_ _ | refine blk_drew ?_ | refine blk_alloc ?_ _)); exact BK127.out) hkp (fun hs_ => (fun e_ => (Kd.R_ne HO136.out BK127.out (by decide)) e_) hs_)); have n2_ := Aside0.mk (Kd.R_mono (ok' := fun k_ => some k_ ≠ (v138 : Value).ownBlock) (Kd.R_keptB (HO133.out) hkp (fun k_ hk_ hs_ => (hk_.2) hs_)) (fun k_ hk_ => fun e_ => Or.elim (ho0.1 k_ e_.symm) (fun hs_ => hk_.2.1 hs_) (fun hn_ => Nat.not_le.2 hk_.2.2 hn_))); have n3_ := Aside0.mk (Kd.R_mono (ok' := fun k_ => some k_ ≠ (.slice Ao23 y131.length co23 : Value).ownBlock) ho0 (fun k_ hk_ => Or.elim hk_ (fun hs_ => fun e_ => (((HO133.out).1 k_ e_.symm).2) hs_) (fun hn_ => (Kd.fresh' (Kd.R_lt (by (with_reducible repeat (first | apply Kd.R_alloc | apply Kd.R_drewN | apply Kd.R_drew)); exact HO133.out)) k_ hn_)))); have n4_ := Aside0.mk (hb); clear BK125; clear BK127; clear HO133; clear HB; clear HO136; have BK125 := n0_; have BK127 := n1_; have HO133 := n2_; have HO139 := n3_; have HB := n4_; clear n0_ n1_ n2_ n3_ n4_; (try clear hb); (try clear hkp); (try clear ho0); have hcz27_0 : w26.cell? ⟨gb125, 0, none⟩ = some (.int .i64 a0_0) := (blk_cell BK125.out 0).trans rfl; have hcz27_1 : w26.cell? ⟨gb125, 1, none⟩ = some (.int .i64 a0_1) := (blk_cell BK125.out 1).trans rfl; have hcz27_2 : w26.cell? ⟨gb125, 2, none⟩ = some (.int .i64 a0_2) := (blk_cell BK125.out 2).trans rfl; have hcz27_3 : w26.cell? ⟨gb125, 3, none⟩ = some (.int .i64 a0_3) := (blk_cell BK125.out 3).trans rfl; have hcz27_4 : w26.cell? ⟨gb125, 4, none⟩ = some (.int .u64 a0_4) := (blk_cell BK125.out 4).trans rfl; have hcz27_5 : w26.cell? ⟨gb125, 5, none⟩ = some (.int .u32 a0_5) := (blk_cell BK125.out 5).trans rfl; have hfz27_0 := blk_frozen BK125.out 0; have hfz27_1 := blk_frozen BK125.out 1; have hfz27_2 := blk_frozen BK125.out 2; have hfz27_3 := blk_frozen BK125.out 3; have hfz27_4 := blk_frozen BK125.out 4; have hfz27_5 := blk_frozen BK125.out 5; obtain ⟨Ao28, co28, eo28⟩ := Kd.R_slice HO139.out; subst eo28) | ((with_reducible refine gate_callee (f := 22) rfl ?_); refine goesL_ (some 32) rfl rfl Tryd.func22 (by kernel_rfl) rfl #[.slice Ao28 t137.length co28, .int .u64 a0_4, .int .i64 8] rfl (by (try simp only [List.map_toArray, List.map_cons, List.map_nil]); first | done | rfl | (simp only [List.length_drop, List.length_take]; rfl)) ?_; (with_reducible refine (head_lay_uint64.calls k (fun k_ => some k_ = (.slice Ao28 t137.length co28 : Value).ownBlock) (.slice Ao28 t137.length co28) t137 a0_4 8 t140 w _ ?side1 ?side2 A6.out).mono ?_); (case side1 => repeat (first | (with_reducible first | exact HB.out | apply below_alloc | apply pw_below_drewN | apply below_drew1 | refine below_set ?_ GE125.out | refine below_set ?_ GE127.out) | exact HB.out)); (case side2 => exact Kd.R_tight rfl HO139.out); rintro e w29 ⟨v141, rfl, ho0, hb, hkp⟩; refine ⟨_, rfl, ?_⟩; have n0_ := Aside0.mk (blk_kept (by (with_reducible repeat (first | refine blk_drewN ?_ _ | refine blk_drew ?_ | refine blk_alloc ?_ _)); exact BK125.out) hkp (fun hs_ => (fun e_ => (Kd.R_ne HO139.out BK125.out (by decide)) e_) hs_)); have n1_ := Aside0.mk (blk_kept (by (with_reducible repeat (first | refine blk_drewN ?_ _ | refine blk_drew ?_ | refine blk_alloc ?_ _)); exact BK127.out) hkp (fun hs_ => (fun e_ => (Kd.R_ne HO139.out BK127.out (by decide)) e_) hs_)); have n2_ := Aside0.mk (Kd.R_mono (ok' := fun k_ => some k_ ≠ (v141 : Value).ownBlock) (Kd.R_keptB (HO133.out) hkp (fun k_ hk_ hs_ => (hk_) hs_)) (fun k_ hk_ => fun e_ => Or.elim (ho0.1 k_ e_.symm) (fun hs_ => hk_.2.1 hs_) (fun hn_ => Nat.not_le.2 hk_.2.2 hn_))); have n3_ := Aside0.mk (Kd.R_mono (ok' := fun k_ => some k_ ≠ (.slice Ao23 y131.length co23 : Value).ownBlock) ho0 (fun k_ hk_ => Or.elim hk_ (fun hs_ => fun e_ => (((HO133.out).1 k_ e_.symm)) hs_) (fun hn_ => (Kd.fresh' (Kd.R_lt (by (with_reducible repeat (first | apply Kd.R_alloc | apply Kd.R_drewN | apply Kd.R_drew)); exact HO133.out)) k_ hn_)))); have n4_ := Aside0.mk (hb); clear BK125; clear BK127; clear HO133; clear HB; clear HO139; have BK125 := n0_; have BK127 := n1_; have HO133 := n2_; have HO142 := n3_; have HB := n4_; clear n0_ n1_ n2_ n3_ n4_; (try clear hb); (try clear hkp); (try clear ho0); have hcz30_0 : w29.cell? ⟨gb125, 0, none⟩ = some (.int .i64 a0_0) := (blk_cell BK125.out 0).trans rfl; have hcz30_1 : w29.cell? ⟨gb125, 1, none⟩ = some (.int .i64 a0_1) := (blk_cell BK125.out 1).trans rfl; have hcz30_2 : w29.cell? ⟨gb125, 2, none⟩ = some (.int .i64 a0_2) := (blk_cell BK125.out 2).trans rfl; have hcz30_3 : w29.cell? ⟨gb125, 3, none⟩ = some (.int .i64 a0_3) := (blk_cell BK125.out 3).trans rfl; have hcz30_4 : w29.cell? ⟨gb125, 4, none⟩ = some (.int .u64 a0_4) := (blk_cell BK125.out 4).trans rfl; have hcz30_5 : w29.cell? ⟨gb125, 5, none⟩ = some (.int .u32 a0_5) := (blk_cell BK125.out 5).trans rfl; have hfz30_0 := blk_frozen BK125.out 0; have hfz30_1 := blk_frozen BK125.out 1; have hfz30_2 := blk_frozen BK125.out 2; have hfz30_3 := blk_frozen BK125.out 3; have hfz30_4 := blk_frozen BK125.out 4; have hfz30_5 := blk_frozen BK125.out 5; obtain ⟨Ao31, co31, eo31⟩ := Kd.R_slice HO142.out; subst eo31) | ((with_reducible refine gate_callee (f := 21) rfl ?_); refine goesL_ (some 36) rfl rfl Tryd.func21 (by kernel_rfl) rfl #[.slice Ao31 t140.length co31, .int .u32 a0_5, .int .i64 4] rfl (by (try simp only [List.map_toArray, List.map_cons, List.map_nil]); first | done | rfl | (simp only [List.length_drop, List.length_take]; rfl)) ?_; (with_reducible refine (head_lay_uint32.calls k (fun k_ => some k_ = (.slice Ao31 t140.length co31 : Value).ownBlock) (.slice Ao31 t140.length co31) t140 a0_5 4 t143 w _ ?side1 ?side2 A7.out).mono ?_); (case side1 => repeat (first | (with_reducible first | exact HB.out | apply below_alloc | apply pw_below_drewN | apply below_drew1 | refine below_set ?_ GE125.out | refine below_set ?_ GE127.out) | exact HB.out)); (case side2 => exact Kd.R_tight rfl HO142.out); rintro e w32 ⟨v144, rfl, ho0, hb, hkp⟩; refine ⟨_, rfl, ?_⟩; have n0_ := Aside0.mk (blk_kept (by (with_reducible repeat (first | refine blk_drewN ?_ _ | refine blk_drew ?_ | refine blk_alloc ?_ _)); exact BK125.out) hkp (fun hs_ => (fun e_ => (Kd.R_ne HO142.out BK125.out (by decide)) e_) hs_)); have n1_ := Aside0.mk (blk_kept (by (with_reducible repeat (first | refine blk_drewN ?_ _ | refine blk_drew ?_ | refine blk_alloc ?_ _)); exact BK127.out) hkp (fun hs_ => (fun e_ => (Kd.R_ne HO142.out BK127.out (by decide)) e_) hs_)); have n2_ := Aside0.mk (Kd.R_mono (ok' := fun k_ => some k_ ≠ (v144 : Value).ownBlock) (Kd.R_keptB (HO133.out) hkp (fun k_ hk_ hs_ => (hk_) hs_)) (fun k_ hk_ => fun e_ => Or.elim (ho0.1 k_ e_.symm) (fun hs_ => hk_.2.1 hs_) (fun hn_ => Nat.not_le.2 hk_.2.2 hn_))); have n3_ := Aside0.mk (Kd.R_mono (ok' := fun k_ => some k_ ≠ (.slice Ao23 y131.length co23 : Value).ownBlock) ho0 (fun k_ hk_ => Or.elim hk_ (fun hs_ => fun e_ => (((HO133.out).1 k_ e_.symm)) hs_) (fun hn_ => (Kd.fresh' (Kd.R_lt (by (with_reducible repeat (first | apply Kd.R_alloc | apply Kd.R_drewN | apply Kd.R_drew)); exact HO133.out)) k_ hn_)))); have n4_ := Aside0.mk (hb); clear BK125; clear BK127; clear HO133; clear HB; clear HO142; have BK125 := n0_; have BK127 := n1_; have HO133 := n2_; have HO145 := n3_; have HB := n4_; clear n0_ n1_ n2_ n3_ n4_; (try clear hb); (try clear hkp); (try clear ho0); obtain ⟨Ao33, co33, eo33⟩ := Kd.R_slice HO145.out; subst eo33) | ((with_reducible refine gate_callee (f := 16) rfl ?_); refine goesL_ (some 39) rfl rfl Tryd.func16 (by kernel_rfl) rfl #[.slice Ao33 t143.length co33] rfl (by (try simp only [List.map_toArray, List.map_cons, List.map_nil]); first | done | rfl | (simp only [List.length_drop, List.length_take]; rfl)) ?_; (with_reducible refine (crc_Sum.calls k _ _ t143 t146 _ ?side1 ?side2 A8.out).mono ?_); (case side1 => repeat (first | exact (Kd.R_reads' HO145.out).2.2 | (with_reducible refine Kd.C_alloc ?_ _) | (with_reducible refine Kd.C_drewN ?_ _) | (with_reducible refine Kd.C_drew ?_))); (case side2 => exact (Kd.R_reads' HO145.out).2.1); rintro e w' ⟨rfl, ⟨nd, rfl⟩⟩; refine ⟨_, rfl, ?_⟩) | ((with_reducible refine gate_callee (f := 21) rfl ?_); refine goesL_ (some 40) rfl rfl Tryd.func21 (by kernel_rfl) rfl #[.slice Ao33 t143.length co33, .int .u32 t146, .int .i64 4] rfl (by (try simp only [List.map_toArray, List.map_cons, List.map_nil]); first | done | rfl | (simp only [List.length_drop, List.length_take]; rfl)) ?_; (with_reducible refine (head_lay_uint32.calls k (fun k_ => some k_ = (.slice Ao33 t143.length co33 : Value).ownBlock) (.slice Ao33 t143.length co33) t143 t146 4 t147 w _ ?side1 ?side2 A9.out).mono ?_); (case side1 => repeat (first | (with_reducible first | exact HB.out | apply below_alloc | apply pw_below_drewN | apply below_drew1 | refine below_set ?_ GE125.out | refine below_set ?_ GE127.out) | exact HB.out)); (case side2 => exact Kd.R_tight rfl HO145.out); rintro e w34 ⟨v148, rfl, ho0, hb, hkp⟩; refine ⟨_, rfl, ?_⟩; have n0_ := Aside0.mk (blk_kept (by (with_reducible repeat (first | refine blk_drewN ?_ _ | refine blk_drew ?_ | refine blk_alloc ?_ _)); exact BK125.out) hkp (fun hs_ => (fun e_ => (Kd.R_ne HO145.out BK125.out (by decide)) e_) hs_)); have n1_ := Aside0.mk (blk_kept (by (with_reducible repeat (first | refine blk_drewN ?_ _ | refine blk_drew ?_ | refine blk_alloc ?_ _)); exact BK127.out) hkp (fun hs_ => (fun e_ => (Kd.R_ne HO145.out BK127.out (by decide)) e_) hs_)); have n2_ := Aside0.mk (Kd.R_mono (ok' := fun k_ => some k_ ≠ (v148 : Value).ownBlock) (Kd.R_keptB (HO133.out) hkp (fun k_ hk_ hs_ => (hk_) hs_)) (fun k_ hk_ => fun e_ => Or.elim (ho0.1 k_ e_.symm) (fun hs_ => hk_.2.1 hs_) (fun hn_ => Nat.not_le.2 hk_.2.2 hn_))); have n3_ := Aside0.mk (Kd.R_mono (ok' := fun k_ => some k_ ≠ (.slice Ao23 y131.length co23 : Value).ownBlock) ho0 (fun k_ hk_ => Or.elim hk_ (fun hs_ => fun e_ => (((HO133.out).1 k_ e_.symm)) hs_) (fun hn_ => (Kd.fresh' (Kd.R_lt (by (with_reducible repeat (first | apply Kd.R_alloc | apply Kd.R_drewN | apply Kd.R_drew)); exact HO133.out)) k_ hn_)))); have n4_ := Aside0.mk (hb); clear BK125; clear BK127; clear HO133; clear HB; clear HO145; have BK125 := n0_; have BK127 := n1_; have HO133 := n2_; have HO149 := n3_; have HB := n4_; clear n0_ n1_ n2_ n3_ n4_; (try clear hb); (try clear hkp); (try clear ho0)))
      go_ret2
      exact ⟨_, by first | rfl | (simp [errW_none, errW_some] <;> rfl) | (simp [*, errW_none, errW_some] <;> rfl), by (with_reducible repeat (first | apply Kd.R_alloc | apply Kd.R_drewN | apply Kd.R_drew)); exact Kd.R_mono HO149.out (fun _ hk => trivial), by repeat (first | (with_reducible first | exact HB.out | apply below_alloc | apply pw_below_drewN | apply below_drew1 | refine below_set ?_ GE125.out | refine below_set ?_ GE127.out) | exact HB.out)⟩
    · rw [if_neg c4] at H
      exact absurd H (by simp)
  · replace c3 := Bool.eq_false_iff.mpr c3
    subst c3
    have H1 : (some (([] : List Int), 9)) = some (r1, r2) := by rw [if_neg (show ¬ (false = true) by decide)] at H; exact H
    clear H
    have H := H1
    clear H1
    simp only [Option.some.injEq, Prod.mk.injEq] at H
    obtain ⟨rfl, rfl⟩ := H
    go_enter Tryd.func10, Tryd.ntmps10
    go_wp2_with (first | ((with_reducible refine gate_dst (N := 1) rfl ?_); refine box_event ?hg (N := 1) ?hd (cs := #[.int .i64 a0_0, .int .i64 a0_1, .int .i64 a0_2, .int .i64 a0_3, .int .u64 a0_4, .int .u32 a0_5]) (t := 27) ?hr ?_; (case hd => rfl); (case hg => rfl); (case hr => first | (go_simp; done) | (go_simp; rfl)); intro gb125 hg w35 hbox hb; have n0_ := Aside0.mk (below_step (by repeat (first | (with_reducible first | exact HB.out | apply below_alloc | apply pw_below_drewN | apply below_drew1) | exact HB.out)) hb); have n1_ := Aside0.mk (hbox); have n2_ := Aside0.mk ((by rw [hg]; exact (below_size (by repeat (first | (with_reducible first | exact HB.out | apply below_alloc | apply pw_below_drewN | apply below_drew1) | exact HB.out))) : w.heap.size ≤ gb125)); have n3_ := Aside0.mk ((by rw [hg]; exact (below_size (by repeat (first | (with_reducible first | exact HB.out | apply below_alloc | apply pw_below_drewN | apply below_drew1) | exact HB.out))) : w.heap.size ≤ gb125)); clear HB; have HB := n0_; have BK125 := n1_; have GW125 := n2_; have GE125 := n3_; clear n0_ n1_ n2_ n3_; clear hb hbox hg; have hcz36_0 : w35.cell? ⟨gb125, 0, none⟩ = some (.int .i64 a0_0) := (blk_cell BK125.out 0).trans rfl; have hcz36_1 : w35.cell? ⟨gb125, 1, none⟩ = some (.int .i64 a0_1) := (blk_cell BK125.out 1).trans rfl; have hcz36_2 : w35.cell? ⟨gb125, 2, none⟩ = some (.int .i64 a0_2) := (blk_cell BK125.out 2).trans rfl; have hcz36_3 : w35.cell? ⟨gb125, 3, none⟩ = some (.int .i64 a0_3) := (blk_cell BK125.out 3).trans rfl; have hcz36_4 : w35.cell? ⟨gb125, 4, none⟩ = some (.int .u64 a0_4) := (blk_cell BK125.out 4).trans rfl; have hcz36_5 : w35.cell? ⟨gb125, 5, none⟩ = some (.int .u32 a0_5) := (blk_cell BK125.out 5).trans rfl; have hfz36_0 := blk_frozen BK125.out 0; have hfz36_1 := blk_frozen BK125.out 1; have hfz36_2 := blk_frozen BK125.out 2; have hfz36_3 := blk_frozen BK125.out 3; have hfz36_4 := blk_frozen BK125.out 4; have hfz36_5 := blk_frozen BK125.out 5) | ((with_reducible refine gate_callee (f := 20) rfl ?_); refine goesL_ (some 7) rfl rfl Tryd.func20 (by kernel_rfl) rfl #[.agg #[.int .i64 a0_0, .int .i64 a0_1, .int .i64 a0_2, .int .i64 a0_3, .int .u64 a0_4, .int .u32 a0_5]] rfl (by (try simp only [List.map_toArray, List.map_cons, List.map_nil]); first | done | rfl | (simp only [List.length_drop, List.length_take]; rfl)) ?_; (with_reducible refine (head_right.calls a0_0 a0_1 a0_2 a0_3 a0_4 a0_5 false _ ?sideG A2.out).mono ?_); (case sideG => first | exact Laid.below HG.out (by repeat (first | (with_reducible first | exact HB.out | apply below_alloc | apply pw_below_drewN | apply below_drew1 | refine below_set ?_ GE125.out) | exact HB.out)) | repeat (first | exact Laid.below HG.out HB.out | exact HG.out | (with_reducible refine Laid.alloc ?_ _) | (with_reducible refine Laid.drewN ?_ _) | (with_reducible refine Laid.drew ?_))); rintro e w37 ⟨rfl, hb⟩; refine ⟨_, rfl, ?_⟩; have n0_ := Aside0.mk (blk_below (g := gb125) (o := .cells #[.int .i64 a0_0, .int .i64 a0_1, .int .i64 a0_2, .int .i64 a0_3, .int .u64 a0_4, .int .u32 a0_5] 27 (0, 0)) (by (with_reducible repeat (first | refine blk_drewN ?_ _ | refine blk_drew ?_ | refine blk_alloc ?_ _)); exact BK125.out) hb); have n1_ := Aside0.mk (below_step (by repeat (first | (with_reducible first | exact HB.out | apply below_alloc | apply pw_below_drewN | apply below_drew1 | refine below_set ?_ GE125.out) | exact HB.out)) hb); clear BK125; clear HB; have BK125 := n0_; have HB := n1_; clear n0_ n1_; (try clear hb); (try clear hb2); (try clear hk); (try clear hi)))
    go_ret2
    exact ⟨_, by first | rfl | (simp [errW_none, errW_some] <;> rfl) | (simp [*, errW_none, errW_some] <;> rfl), by first | exact Kd.R_nil _ _ _ _ _ | exact Kd.N_nil _ _ _ _ _ | exact Kd.V_nil _ _ _ _ _ | exact Kd.Q_nil _ _ _ _ _ | exact Kd.S_nil _ _ _ _ _, by repeat (first | (with_reducible first | exact HB.out | apply below_alloc | apply pw_below_drewN | apply below_drew1 | refine below_set ?_ GE125.out) | exact HB.out)⟩

/-! ### head_take_uint32: function 25 -/
def head_take_uint32.l0 : Nat → List Int → Int → Int → Option (Int)
  | 0, _, _, _ => none
  | k + 1, x0, x3, x4 => if x4 ≥ 0 then (if 0 ≤ x4 then (if x4 < (x0.length : Int) then (head_take_uint32.l0 k x0 (Go.bits .or .u32 ((x3 * 256) % 4294967296) ((rd x0 x4) % 4294967296)) (wrap64 (x4 - 1))) else (none)) else (none)) else (some x3)
def head_take_uint32.f (k : Nat) (l0 : List Int) : Option (Int) := head_take_uint32.l0 k l0 0 (wrap64 ((l0.length : Int) - 1))
theorem head_take_uint32.mono_l : ∀ k, (∀ y0 y1 y2, LeO (head_take_uint32.l0 k y0 y1 y2) (head_take_uint32.l0 (k + 1) y0 y1 y2))
  | 0 => fun _ _ _ r h => by simp [head_take_uint32.l0] at h
  | k + 1 => by
    have ih0 := head_take_uint32.mono_l k
    · intro y0 y1 y2
      unfold head_take_uint32.l0
      repeat' first
      | (with_reducible exact ih0 _ _ _)
      | (with_reducible exact LeO.refl _)
      | (with_reducible exact LeO.none _)
      | (with_reducible refine LeO.ite ?_ ?_)
      | (with_reducible refine LeO.bind ?_ (fun _ => ?_))
      | exact ih0 _ _ _
      | exact LeO.none _
      | refine LeO.ite ?_ ?_
      | refine LeO.bind ?_ (fun _ => ?_)
theorem head_take_uint32.mono : ∀ a0 k, LeO (head_take_uint32.f k a0) (head_take_uint32.f (k + 1) a0) := by
  intro a0 k
  have ih0 := head_take_uint32.mono_l k
  unfold head_take_uint32.f
  repeat' first
      | (with_reducible exact ih0 _ _ _)
      | (with_reducible exact LeO.refl _)
      | (with_reducible exact LeO.none _)
      | (with_reducible refine LeO.ite ?_ ?_)
      | (with_reducible refine LeO.bind ?_ (fun _ => ?_))
      | exact ih0 _ _ _
      | exact LeO.none _
      | refine LeO.ite ?_ ?_
      | refine LeO.bind ?_ (fun _ => ?_)
set_option maxHeartbeats 8000000 in
set_option maxRecDepth 100000 in
theorem head_take_uint32.calls (k : Nat) (A0 : Option Addr) (c0 : Nat) (l0 : List Int) (r : Int) (w : World) (hr0 : Kd.C (Kd.int .u8) w A0 l0.length l0) (hc0 : l0.length ≤ c0) (h : head_take_uint32.f k l0 = some r) :
    Calls Tryd.prog 25 #[.slice A0 l0.length c0] w fun e w' => e = .returned (.int .u32 r) ∧ Drawn0 w w' := by
  have HR0 := Aside0.mk hr0
  have HC0 := Aside0.mk hc0
  clear hr0 hc0
  have H : (head_take_uint32.l0 k l0 0 (wrap64 ((l0.length : Int) - 1))) = some r := h
  clear h
  have H' := Aside0.mk H
  clear H
  go_enter Tryd.func25, Tryd.ntmps25
  go_wp2
  go_loopg [3, 4] k (fun kq v3 v4 w' => ∃ (x3_1 : Int) (x4_1 : Int), v3 = .int .u32 x3_1 ∧ v4 = .int .i64 x4_1 ∧ Aside0 (head_take_uint32.l0 kq l0 x3_1 x4_1 = some r) ∧ Aside0 (kq ≤ k) ∧ Drawn0 w w')
  case atStart => exact ⟨(0), (wrap64 ((l0.length : Int) - 1)), (by first | rfl | (simp; done) | (simp [*]; done) | (simp; omega)), (by first | rfl | (simp; done) | (simp [*]; done) | (simp; omega)), H', ⟨Nat.le_refl _⟩, by repeat (first | exact Drawn0.refl _ | apply Drawn0.step)⟩
  case round =>
    clear H'
    obtain ⟨x3_1, x4_1, rfl, rfl, HA, HK1, ⟨m1, rfl⟩⟩ := hrel
    cases gk with
    | zero => exact absurd HA.out (by simp [head_take_uint32.l0])
    | succ k1 =>
      have H := HA.out
      clear HA
      simp only [head_take_uint32.l0] at H
      by_cases c2 : x4_1 ≥ 0
      · rw [if_pos c2] at H
        have c2b0 : decide (0 ≤ x4_1) = true := decide_eq_true c2
        clear c2
        by_cases c3 : 0 ≤ x4_1
        · rw [if_pos c3] at H
          have c3b0 : decide (0 ≤ x4_1) = true := decide_eq_true c3
          clear c3
          by_cases c4 : x4_1 < (l0.length : Int)
          · rw [if_pos c4] at H
            have c4b0 : decide (x4_1 < (l0.length : Int)) = true := decide_eq_true c4
            clear c4
            have H' := Aside0.mk H
            clear H
            have p150 : 0 ≤ (x4_1 : Int) := of_decide_eq_true (by first | (with_reducible assumption) | assumption)
            have q150 : x4_1 < (l0.length : Int) := of_decide_eq_true (by first | (with_reducible assumption) | assumption)
            obtain ⟨ad150, e150, hx150_0⟩ := Kd.at_int HR0.out x4_1 p150 q150
            cases e150
            replace p150 := eq_true p150
            replace q150 := eq_true q150
            go_wp2
            go_roundg k1
            case measure => have := HK1.out; omega
            case rel => exact ⟨(Go.bits .or .u32 ((x3_1 * 256) % 4294967296) ((rd l0 x4_1) % 4294967296)), (wrap64 (x4_1 - 1)), (by first | rfl | (simp; done) | (simp [*]; done) | (simp; omega)), (by first | rfl | (simp; done) | (simp [*]; done) | (simp; omega)), H', ⟨by have := HK1.out; omega⟩, by repeat (first | exact Drawn0.refl _ | apply Drawn0.step)⟩
          · rw [if_neg c4] at H
            exact absurd H (by simp)
        · rw [if_neg c3] at H
          exact absurd H (by simp)
      · rw [if_neg c2] at H
        have c2b0 : decide (0 ≤ x4_1) = false := decide_eq_false c2
        clear c2
        obtain rfl := Option.some.inj H
        go_wp2
        go_ret
        exact ⟨by first | rfl | (simp; done) | (simp [*]; done), by repeat (first | exact Drawn0.refl _ | apply Drawn0.step)⟩

/-! ### head_take_uint64: function 26 -/
def head_take_uint64.l0 : Nat → List Int → Int → Int → Option (Int)
  | 0, _, _, _ => none
  | k + 1, x0, x3, x4 => if x4 ≥ 0 then (if 0 ≤ x4 then (if x4 < (x0.length : Int) then (head_take_uint64.l0 k x0 (Go.bits .or .u64 (IntKind.u64.wrap (x3 * 256)) (IntKind.u64.wrap (rd x0 x4))) (wrap64 (x4 - 1))) else (none)) else (none)) else (some x3)
def head_take_uint64.f (k : Nat) (l0 : List Int) : Option (Int) := head_take_uint64.l0 k l0 0 (wrap64 ((l0.length : Int) - 1))
theorem head_take_uint64.mono_l : ∀ k, (∀ y0 y1 y2, LeO (head_take_uint64.l0 k y0 y1 y2) (head_take_uint64.l0 (k + 1) y0 y1 y2))
  | 0 => fun _ _ _ r h => by simp [head_take_uint64.l0] at h
  | k + 1 => by
    have ih0 := head_take_uint64.mono_l k
    · intro y0 y1 y2
      unfold head_take_uint64.l0
      repeat' first
      | (with_reducible exact ih0 _ _ _)
      | (with_reducible exact LeO.refl _)
      | (with_reducible exact LeO.none _)
      | (with_reducible refine LeO.ite ?_ ?_)
      | (with_reducible refine LeO.bind ?_ (fun _ => ?_))
      | exact ih0 _ _ _
      | exact LeO.none _
      | refine LeO.ite ?_ ?_
      | refine LeO.bind ?_ (fun _ => ?_)
theorem head_take_uint64.mono : ∀ a0 k, LeO (head_take_uint64.f k a0) (head_take_uint64.f (k + 1) a0) := by
  intro a0 k
  have ih0 := head_take_uint64.mono_l k
  unfold head_take_uint64.f
  repeat' first
      | (with_reducible exact ih0 _ _ _)
      | (with_reducible exact LeO.refl _)
      | (with_reducible exact LeO.none _)
      | (with_reducible refine LeO.ite ?_ ?_)
      | (with_reducible refine LeO.bind ?_ (fun _ => ?_))
      | exact ih0 _ _ _
      | exact LeO.none _
      | refine LeO.ite ?_ ?_
      | refine LeO.bind ?_ (fun _ => ?_)
set_option maxHeartbeats 8000000 in
set_option maxRecDepth 100000 in
theorem head_take_uint64.calls (k : Nat) (A0 : Option Addr) (c0 : Nat) (l0 : List Int) (r : Int) (w : World) (hr0 : Kd.C (Kd.int .u8) w A0 l0.length l0) (hc0 : l0.length ≤ c0) (h : head_take_uint64.f k l0 = some r) :
    Calls Tryd.prog 26 #[.slice A0 l0.length c0] w fun e w' => e = .returned (.int .u64 r) ∧ Drawn0 w w' := by
  have HR0 := Aside0.mk hr0
  have HC0 := Aside0.mk hc0
  clear hr0 hc0
  have H : (head_take_uint64.l0 k l0 0 (wrap64 ((l0.length : Int) - 1))) = some r := h
  clear h
  have H' := Aside0.mk H
  clear H
  go_enter Tryd.func26, Tryd.ntmps26
  go_wp2
  go_loopg [3, 4] k (fun kq v3 v4 w' => ∃ (x3_1 : Int) (x4_1 : Int), v3 = .int .u64 x3_1 ∧ v4 = .int .i64 x4_1 ∧ Aside0 (head_take_uint64.l0 kq l0 x3_1 x4_1 = some r) ∧ Aside0 (kq ≤ k) ∧ Drawn0 w w')
  case atStart => exact ⟨(0), (wrap64 ((l0.length : Int) - 1)), (by first | rfl | (simp; done) | (simp [*]; done) | (simp; omega)), (by first | rfl | (simp; done) | (simp [*]; done) | (simp; omega)), H', ⟨Nat.le_refl _⟩, by repeat (first | exact Drawn0.refl _ | apply Drawn0.step)⟩
  case round =>
    clear H'
    obtain ⟨x3_1, x4_1, rfl, rfl, HA, HK1, ⟨m1, rfl⟩⟩ := hrel
    cases gk with
    | zero => exact absurd HA.out (by simp [head_take_uint64.l0])
    | succ k1 =>
      have H := HA.out
      clear HA
      simp only [head_take_uint64.l0] at H
      by_cases c2 : x4_1 ≥ 0
      · rw [if_pos c2] at H
        have c2b0 : decide (0 ≤ x4_1) = true := decide_eq_true c2
        clear c2
        by_cases c3 : 0 ≤ x4_1
        · rw [if_pos c3] at H
          have c3b0 : decide (0 ≤ x4_1) = true := decide_eq_true c3
          clear c3
          by_cases c4 : x4_1 < (l0.length : Int)
          · rw [if_pos c4] at H
            have c4b0 : decide (x4_1 < (l0.length : Int)) = true := decide_eq_true c4
            clear c4
            have H' := Aside0.mk H
            clear H
            have p151 : 0 ≤ (x4_1 : Int) := of_decide_eq_true (by first | (with_reducible assumption) | assumption)
            have q151 : x4_1 < (l0.length : Int) := of_decide_eq_true (by first | (with_reducible assumption) | assumption)
            obtain ⟨ad151, e151, hx151_0⟩ := Kd.at_int HR0.out x4_1 p151 q151
            cases e151
            replace p151 := eq_true p151
            replace q151 := eq_true q151
            go_wp2
            go_roundg k1
            case measure => have := HK1.out; omega
            case rel => exact ⟨(Go.bits .or .u64 (IntKind.u64.wrap (x3_1 * 256)) (IntKind.u64.wrap (rd l0 x4_1))), (wrap64 (x4_1 - 1)), (by first | rfl | (simp; done) | (simp [*]; done) | (simp; omega)), (by first | rfl | (simp; done) | (simp [*]; done) | (simp; omega)), H', ⟨by have := HK1.out; omega⟩, by repeat (first | exact Drawn0.refl _ | apply Drawn0.step)⟩
          · rw [if_neg c4] at H
            exact absurd H (by simp)
        · rw [if_neg c3] at H
          exact absurd H (by simp)
      · rw [if_neg c2] at H
        have c2b0 : decide (0 ≤ x4_1) = false := decide_eq_false c2
        clear c2
        obtain rfl := Option.some.inj H
        go_wp2
        go_ret
        exact ⟨by first | rfl | (simp; done) | (simp [*]; done), by repeat (first | exact Drawn0.refl _ | apply Drawn0.step)⟩

end Go.Proofs.YtlinaijndlcfjaaDoor.All
