-- written by a program of mine (xprint_patch.py over the kit's print)
import Derived.Test.YtlinaijndlcfjaaDoorAx0
import Derived.Test.YtlinaijndlcfjaaDoorAx3
import Derived.Test.YtlinaijndlcfjaaDoorAx4
import Derived.Test.YtlinaijndlcfjaaDoorAx5
import Derived.Test.YtlinaijndlcfjaaDoorAx6
import Derived.Test.YtlinaijndlcfjaaDoorAx8
namespace Go.Proofs.YtlinaijndlcfjaaDoor.Given
end Go.Proofs.YtlinaijndlcfjaaDoor.Given
namespace Go.Proofs.YtlinaijndlcfjaaDoor.All
open Go.Proofs.YtlinaijndlcfjaaDoor.Given
open Go.RowKit Go.Proofs.YtlinaijndlcfjaaDoorW.PrintWords Go.Proofs.YtlinaijndlcfjaaDoorW.PrintLast Go.Proofs.YtlinaijndlcfjaaDoorW.PrintMore
attribute [local go_sem] max2_int min2_int max_two min_two max_three min_three max_four min_four   -- for this text's walks alone
set_option linter.unusedVariables false
set_option linter.unusedSimpArgs false

/-! ### keepsakelaw04_HeadBursts: function 6 -/
mutual
def keepsakelaw04_HeadBursts.j0 : Nat → Int → Int → Bool → List Int → Bool → Option (Bool)
  | 0, _, _, _, _, _ => none
  | k + 1, x5, x6, x15, x17, x52 => if x52 = true then (none) else ((some (([] : List Int) : List Int)).bind fun y388 => (if y388.length + x17.length < 140737488355328 then (keepsakelaw04_HeadBursts.l0 k x6 x15 x17 (y388 ++ x17) (Int.tmod (wrap64 (x5)) 224) 0) else (none)))
def keepsakelaw04_HeadBursts.l0 : Nat → Int → Bool → List Int → List Int → Int → Int → Option (Bool)
  | 0, _, _, _, _, _, _ => none
  | k + 1, x6, x15, x17, x19, x20, x21 => if x21 < 32 then (keepsakelaw04_HeadBursts.j2 k x6 x15 x17 x19 x20 x21 (decide ((wrap64 (x20 + x21)) < 224))) else (keepsakelaw04_HeadBursts.j2 k x6 x15 x17 x19 x20 x21 false)
def keepsakelaw04_HeadBursts.j2 : Nat → Int → Bool → List Int → List Int → Int → Int → Bool → Option (Bool)
  | 0, _, _, _, _, _, _, _ => none
  | k + 1, x6, x15, x17, x19, x20, x21, x66 => if x66 = true then (if 0 ≤ x21 then (if (Go.bits .and .u32 (shr .u32 x6 x21) 1) = 1 then (if 0 ≤ (wrap64 (Int.tdiv (wrap64 (x20 + x21)) 8)) then (if (wrap64 (Int.tdiv (wrap64 (x20 + x21)) 8)) < (x19.length : Int) then (if 0 ≤ (Int.tmod (wrap64 (x20 + x21)) 8) then (keepsakelaw04_HeadBursts.l0 k x6 x15 x17 (x19.set ((wrap64 (Int.tdiv (wrap64 (x20 + x21)) 8)) : Int).toNat (Go.bits .xor .u8 (rd x19 (wrap64 (Int.tdiv (wrap64 (x20 + x21)) 8))) (shl .u8 1 (Int.tmod (wrap64 (x20 + x21)) 8)))) x20 (wrap64 (x21 + 1))) else (none)) else (none)) else (none)) else (keepsakelaw04_HeadBursts.l0 k x6 x15 x17 x19 x20 (wrap64 (x21 + 1)))) else (none)) else ((head_Decode.f k x19).bind fun bt396 => ((keepsakeref01_Same.f k x17 x19).bind fun t404 => (if x15 = true then (some ((bt396.2.2.2.2.2.2 == 0) == t404)) else (none))))
end
def keepsakelaw04_HeadBursts.f (k : Nat) (a0 : Int) (a1 : Int) (a2 : Int) (a3 : Int) (a4 : Int) (a5 : Int) (a6 : Int) : Option (Bool) := (keepsakelaw04_awake.f k).bind fun t381 => ((geo_Total.f (wrap64 (Int.tmod a0 11)) (wrap64 (Int.tmod a1 65)) (wrap64 (Int.tmod a2 129))).bind fun t383 => ((head_Encode.f k (wrap64 (Int.tmod a0 11)) (wrap64 (Int.tmod a1 65)) (wrap64 (Int.tmod a2 129)) t383 a3 a4).bind fun bt384 => (if bt384.2 = 0 then (keepsakelaw04_HeadBursts.j0 k a5 a6 t381 bt384.1 ((bt384.1.length : Int) != 28)) else (keepsakelaw04_HeadBursts.j0 k a5 a6 t381 bt384.1 true))))
theorem keepsakelaw04_HeadBursts.mono_l : ∀ k, (∀ y0 y1 y2 y3 y4, LeO (keepsakelaw04_HeadBursts.j0 k y0 y1 y2 y3 y4) (keepsakelaw04_HeadBursts.j0 (k + 1) y0 y1 y2 y3 y4)) ∧ (∀ y0 y1 y2 y3 y4 y5, LeO (keepsakelaw04_HeadBursts.l0 k y0 y1 y2 y3 y4 y5) (keepsakelaw04_HeadBursts.l0 (k + 1) y0 y1 y2 y3 y4 y5)) ∧ (∀ y0 y1 y2 y3 y4 y5 y6, LeO (keepsakelaw04_HeadBursts.j2 k y0 y1 y2 y3 y4 y5 y6) (keepsakelaw04_HeadBursts.j2 (k + 1) y0 y1 y2 y3 y4 y5 y6))
  | 0 => ⟨fun _ _ _ _ _ r h => by simp [keepsakelaw04_HeadBursts.j0] at h, fun _ _ _ _ _ _ r h => by simp [keepsakelaw04_HeadBursts.l0] at h, fun _ _ _ _ _ _ _ r h => by simp [keepsakelaw04_HeadBursts.j2] at h⟩
  | k + 1 => by
    obtain ⟨ih0, ih1, ih2⟩ := keepsakelaw04_HeadBursts.mono_l k
    refine ⟨?_, ?_, ?_⟩
    · intro y0 y1 y2 y3 y4
      unfold keepsakelaw04_HeadBursts.j0
      repeat' first
      | (with_reducible exact ih0 _ _ _ _ _)
      | (with_reducible exact ih1 _ _ _ _ _ _)
      | (with_reducible exact ih2 _ _ _ _ _ _ _)
      | (with_reducible exact head_Decode.mono _ _)
      | (with_reducible exact head_Encode.mono _ _ _ _ _ _ _)
      | (with_reducible exact keepsakelaw04_awake.mono _)
      | (with_reducible exact keepsakeref01_Same.mono _ _ _)
      | (with_reducible exact LeO.refl _)
      | (with_reducible exact LeO.none _)
      | (with_reducible refine LeO.ite ?_ ?_)
      | (with_reducible refine LeO.bind ?_ (fun _ => ?_))
      | exact ih0 _ _ _ _ _
      | exact ih1 _ _ _ _ _ _
      | exact ih2 _ _ _ _ _ _ _
      | exact head_Decode.mono _ _
      | exact head_Encode.mono _ _ _ _ _ _ _
      | exact keepsakelaw04_awake.mono _
      | exact keepsakeref01_Same.mono _ _ _
      | exact LeO.none _
      | refine LeO.ite ?_ ?_
      | refine LeO.bind ?_ (fun _ => ?_)
    · intro y0 y1 y2 y3 y4 y5
      unfold keepsakelaw04_HeadBursts.l0
      repeat' first
      | (with_reducible exact ih0 _ _ _ _ _)
      | (with_reducible exact ih1 _ _ _ _ _ _)
      | (with_reducible exact ih2 _ _ _ _ _ _ _)
      | (with_reducible exact head_Decode.mono _ _)
      | (with_reducible exact head_Encode.mono _ _ _ _ _ _ _)
      | (with_reducible exact keepsakelaw04_awake.mono _)
      | (with_reducible exact keepsakeref01_Same.mono _ _ _)
      | (with_reducible exact LeO.refl _)
      | (with_reducible exact LeO.none _)
      | (with_reducible refine LeO.ite ?_ ?_)
      | (with_reducible refine LeO.bind ?_ (fun _ => ?_))
      | exact ih0 _ _ _ _ _
      | exact ih1 _ _ _ _ _ _
      | exact ih2 _ _ _ _ _ _ _
      | exact head_Decode.mono _ _
      | exact head_Encode.mono _ _ _ _ _ _ _
      | exact keepsakelaw04_awake.mono _
      | exact keepsakeref01_Same.mono _ _ _
      | exact LeO.none _
      | refine LeO.ite ?_ ?_
      | refine LeO.bind ?_ (fun _ => ?_)
    · intro y0 y1 y2 y3 y4 y5 y6
      unfold keepsakelaw04_HeadBursts.j2
      repeat' first
      | (with_reducible exact ih0 _ _ _ _ _)
      | (with_reducible exact ih1 _ _ _ _ _ _)
      | (with_reducible exact ih2 _ _ _ _ _ _ _)
      | (with_reducible exact head_Decode.mono _ _)
      | (with_reducible exact head_Encode.mono _ _ _ _ _ _ _)
      | (with_reducible exact keepsakelaw04_awake.mono _)
      | (with_reducible exact keepsakeref01_Same.mono _ _ _)
      | (with_reducible exact LeO.refl _)
      | (with_reducible exact LeO.none _)
      | (with_reducible refine LeO.ite ?_ ?_)
      | (with_reducible refine LeO.bind ?_ (fun _ => ?_))
      | exact ih0 _ _ _ _ _
      | exact ih1 _ _ _ _ _ _
      | exact ih2 _ _ _ _ _ _ _
      | exact head_Decode.mono _ _
      | exact head_Encode.mono _ _ _ _ _ _ _
      | exact keepsakelaw04_awake.mono _
      | exact keepsakeref01_Same.mono _ _ _
      | exact LeO.none _
      | refine LeO.ite ?_ ?_
      | refine LeO.bind ?_ (fun _ => ?_)
theorem keepsakelaw04_HeadBursts.mono : ∀ a0 a1 a2 a3 a4 a5 a6 k, LeO (keepsakelaw04_HeadBursts.f k a0 a1 a2 a3 a4 a5 a6) (keepsakelaw04_HeadBursts.f (k + 1) a0 a1 a2 a3 a4 a5 a6) := by
  intro a0 a1 a2 a3 a4 a5 a6 k
  obtain ⟨ih0, ih1, ih2⟩ := keepsakelaw04_HeadBursts.mono_l k
  unfold keepsakelaw04_HeadBursts.f
  repeat' first
      | (with_reducible exact ih0 _ _ _ _ _)
      | (with_reducible exact ih1 _ _ _ _ _ _)
      | (with_reducible exact ih2 _ _ _ _ _ _ _)
      | (with_reducible exact head_Decode.mono _ _)
      | (with_reducible exact head_Encode.mono _ _ _ _ _ _ _)
      | (with_reducible exact keepsakelaw04_awake.mono _)
      | (with_reducible exact keepsakeref01_Same.mono _ _ _)
      | (with_reducible exact LeO.refl _)
      | (with_reducible exact LeO.none _)
      | (with_reducible refine LeO.ite ?_ ?_)
      | (with_reducible refine LeO.bind ?_ (fun _ => ?_))
      | exact ih0 _ _ _ _ _
      | exact ih1 _ _ _ _ _ _
      | exact ih2 _ _ _ _ _ _ _
      | exact head_Decode.mono _ _
      | exact head_Encode.mono _ _ _ _ _ _ _
      | exact keepsakelaw04_awake.mono _
      | exact keepsakeref01_Same.mono _ _ _
      | exact LeO.none _
      | refine LeO.ite ?_ ?_
      | refine LeO.bind ?_ (fun _ => ?_)
def keepsakelaw04_HeadBursts.T3 : Bool × List (List Nat × List Nat) := (true, [([], []), ([], []), ([1], [1]), ([], []), ([], []), ([0, 2, 3, 4], [0, 2, 3, 4]), ([5, 2], [5]), ([6], [6]), ([7], [7]), ([7], [7]), ([8, 6, 0, 1, 2, 3, 4, 5, 6, 7, 8], [8]), ([9, 10, 0, 1, 2, 3, 4, 5, 6, 7, 8, 9, 10], [9])])
def keepsakelaw04_HeadBursts.B3 : List Nat := [0, 0, 2, 0, 0, 31, 63, 127, 255, 255, 511, 2047]
theorem keepsakelaw04_HeadBursts.tab3 : rtab .any (opsOf Tryd.f6 3) = keepsakelaw04_HeadBursts.T3 := by kernel_rfl
theorem keepsakelaw04_HeadBursts.bits3 : waitsOk keepsakelaw04_HeadBursts.T3.2 keepsakelaw04_HeadBursts.B3 = true := by kernel_rfl
def keepsakelaw04_HeadBursts.T12 : Bool × List (List Nat × List Nat) := (true, [([], []), ([], []), ([], []), ([1, 2], [1, 2]), ([3], [3]), ([], []), ([], []), ([], []), ([6, 7], [6, 7]), ([8], [8]), ([5, 9], [5, 9]), ([10], [10]), ([], []), ([], []), ([12, 13], [12, 13]), ([14], [14]), ([15], [15]), ([11, 16], [11, 16]), ([0, 4, 0, 1, 2, 3, 4, 5, 6, 7, 8, 9, 10, 11, 12, 13, 14, 15, 16, 17], [0, 4]), ([18, 17, 0, 1, 2, 3, 4, 5, 6, 7, 8, 9, 10, 11, 12, 13, 14, 15, 16, 17], [17, 18])])
def keepsakelaw04_HeadBursts.B12 : List Nat := [0, 0, 0, 6, 14, 0, 0, 0, 192, 448, 992, 2016, 0, 0, 12288, 28672, 61440, 131040, 262143, 524287]
theorem keepsakelaw04_HeadBursts.tab12 : rtab .any (opsOf Tryd.f6 12) = keepsakelaw04_HeadBursts.T12 := by kernel_rfl
theorem keepsakelaw04_HeadBursts.bits12 : waitsOk keepsakelaw04_HeadBursts.T12.2 keepsakelaw04_HeadBursts.B12 = true := by kernel_rfl
set_option maxHeartbeats 8000000 in
set_option maxRecDepth 100000 in
theorem keepsakelaw04_HeadBursts.calls (k : Nat) (a0 : Int) (a1 : Int) (a2 : Int) (a3 : Int) (a4 : Int) (a5 : Int) (a6 : Int) (r : Bool) (w : World) (hG : Laid w) (h : keepsakelaw04_HeadBursts.f k a0 a1 a2 a3 a4 a5 a6 = some r) :
    Calls Tryd.prog 6 #[.int .u8 a0, .int .u8 a1, .int .u8 a2, .int .u64 a3, .int .u32 a4, .int .u8 a5, .int .u32 a6] w fun e w' => e = .returned (.bool r) ∧ Below w.heap.size w w' := by
  have HG := Aside0.mk hG
  clear hG
  have hu23 := Tryd.underlying23
  have hu27 := Tryd.underlying27
  have HB := Aside0.mk (Below.refl w.heap.size w)
  have H : ((keepsakelaw04_awake.f k).bind fun t381 => ((geo_Total.f (wrap64 (Int.tmod a0 11)) (wrap64 (Int.tmod a1 65)) (wrap64 (Int.tmod a2 129))).bind fun t383 => ((head_Encode.f k (wrap64 (Int.tmod a0 11)) (wrap64 (Int.tmod a1 65)) (wrap64 (Int.tmod a2 129)) t383 a3 a4).bind fun bt384 => (if bt384.2 = 0 then (keepsakelaw04_HeadBursts.j0 k a5 a6 t381 bt384.1 ((bt384.1.length : Int) != 28)) else (keepsakelaw04_HeadBursts.j0 k a5 a6 t381 bt384.1 true))))) = some r := h
  clear h
  replace H := Option.bind_eq_some_iff.mp H
  obtain ⟨t381, A80, H⟩ := H
  replace H : ((geo_Total.f (wrap64 (Int.tmod a0 11)) (wrap64 (Int.tmod a1 65)) (wrap64 (Int.tmod a2 129))).bind fun t383 => ((head_Encode.f k (wrap64 (Int.tmod a0 11)) (wrap64 (Int.tmod a1 65)) (wrap64 (Int.tmod a2 129)) t383 a3 a4).bind fun bt384 => (if bt384.2 = 0 then (keepsakelaw04_HeadBursts.j0 k a5 a6 t381 bt384.1 ((bt384.1.length : Int) != 28)) else (keepsakelaw04_HeadBursts.j0 k a5 a6 t381 bt384.1 true)))) = some r := H
  have A8 := Aside0.mk A80
  clear A80
  replace H := Option.bind_eq_some_iff.mp H
  obtain ⟨t383, A90, H⟩ := H
  replace H : ((head_Encode.f k (wrap64 (Int.tmod a0 11)) (wrap64 (Int.tmod a1 65)) (wrap64 (Int.tmod a2 129)) t383 a3 a4).bind fun bt384 => (if bt384.2 = 0 then (keepsakelaw04_HeadBursts.j0 k a5 a6 t381 bt384.1 ((bt384.1.length : Int) != 28)) else (keepsakelaw04_HeadBursts.j0 k a5 a6 t381 bt384.1 true))) = some r := H
  have A9 := Aside0.mk A90
  clear A90
  replace H := Option.bind_eq_some_iff.mp H
  obtain ⟨⟨t384, t387⟩, A100, H⟩ := H
  replace H : (if t387 = 0 then (keepsakelaw04_HeadBursts.j0 k a5 a6 t381 t384 ((t384.length : Int) != 28)) else (keepsakelaw04_HeadBursts.j0 k a5 a6 t381 t384 true)) = some r := H
  have A10 := Aside0.mk A100
  clear A100
  have HC11 := Aside0.mk H
  clear H
  go_enter Tryd.func6, Tryd.ntmps6
  try go_wp2_with (first | ((with_reducible refine gate_callee (f := 9) rfl ?_); refine goesL_ (some 25) rfl rfl Tryd.func9 (by kernel_rfl) rfl #[] rfl (by (try simp only [List.map_toArray, List.map_cons, List.map_nil]); first | done | rfl | (simp only [List.length_drop, List.length_take]; rfl)) ?_; (with_reducible refine (keepsakelaw04_awake.calls k  t381 _ ?sideG A8.out).mono ?_); (case sideG => repeat (first | exact Laid.below HG.out HB.out | exact HG.out | (with_reducible refine Laid.alloc ?_ _) | (with_reducible refine Laid.drewN ?_ _) | (with_reducible refine Laid.drew ?_))); rintro e w12 ⟨rfl, hb⟩; refine ⟨_, rfl, ?_⟩; have n0_ := Aside0.mk (below_step (by repeat (first | (with_reducible first | exact HB.out | apply below_alloc | apply pw_below_drewN | apply below_drew1) | exact HB.out)) hb); clear HB; have HB := n0_; clear n0_; (try clear hb); (try clear hb2); (try clear hk); (try clear hi)) | ((with_reducible refine gate_dst (N := 16) rfl ?_); (try (refine gate_guard (by rfl) ?_; dsimp only)); refine box_event ?hg (N := 16) ?hd (cs := #[.int .i64 0, .int .i64 0, .int .i64 0]) (t := 23) ?hr ?_; (case hd => rfl); (case hg => rfl); (case hr => first | (go_simp; done) | (go_simp; rfl)); intro gb382 hg w13 hbox hb; have n0_ := Aside0.mk (below_step (by repeat (first | (with_reducible first | exact HB.out | apply below_alloc | apply pw_below_drewN | apply below_drew1) | exact HB.out)) hb); have n1_ := Aside0.mk (hbox); have n2_ := Aside0.mk ((by rw [hg]; exact (below_size (by repeat (first | (with_reducible first | exact HB.out | apply below_alloc | apply pw_below_drewN | apply below_drew1) | exact HB.out))) : w.heap.size ≤ gb382)); have n3_ := Aside0.mk ((by rw [hg]; exact (below_size (by repeat (first | (with_reducible first | exact HB.out | apply below_alloc | apply pw_below_drewN | apply below_drew1) | exact HB.out))) : w.heap.size ≤ gb382)); clear HB; have HB := n0_; have BK382 := n1_; have GW382 := n2_; have GE382 := n3_; clear n0_ n1_ n2_ n3_; clear hb hbox hg; have hcz14_0 : w13.cell? ⟨gb382, 0, none⟩ = some (.int .i64 0) := (blk_cell BK382.out 0).trans rfl; have hcz14_1 : w13.cell? ⟨gb382, 1, none⟩ = some (.int .i64 0) := (blk_cell BK382.out 1).trans rfl; have hcz14_2 : w13.cell? ⟨gb382, 2, none⟩ = some (.int .i64 0) := (blk_cell BK382.out 2).trans rfl; have hfz14_0 := blk_frozen BK382.out 0; have hfz14_1 := blk_frozen BK382.out 1; have hfz14_2 := blk_frozen BK382.out 2))
  have n0_ : Aside0 ((((w13.setCell ⟨gb382, 0, none⟩ (.int .i64 (wrap64 (Int.tmod a0 11)))).setCell ⟨gb382, 1, none⟩ (.int .i64 (wrap64 (Int.tmod a1 65)))).setCell ⟨gb382, 2, none⟩ (.int .i64 (wrap64 (Int.tmod a2 129)))).heap[gb382]? = some (.cells #[.int .i64 (wrap64 (Int.tmod a0 11)), .int .i64 (wrap64 (Int.tmod a1 65)), .int .i64 (wrap64 (Int.tmod a2 129))] 23 (0, 0))) := ⟨by (with_reducible repeat (first | refine blk_drewN ?_ _ | refine blk_drew ?_ | refine blk_alloc ?_ _)); refine blk_put (cs := #[.int .i64 (wrap64 (Int.tmod a0 11)), .int .i64 (wrap64 (Int.tmod a1 65)), .int .i64 0]) ?_ 2 _ rfl; (with_reducible repeat (first | refine blk_drewN ?_ _ | refine blk_drew ?_ | refine blk_alloc ?_ _)); refine blk_put (cs := #[.int .i64 (wrap64 (Int.tmod a0 11)), .int .i64 0, .int .i64 0]) ?_ 1 _ rfl; (with_reducible repeat (first | refine blk_drewN ?_ _ | refine blk_drew ?_ | refine blk_alloc ?_ _)); refine blk_put (cs := #[.int .i64 0, .int .i64 0, .int .i64 0]) ?_ 0 _ rfl; (with_reducible repeat (first | refine blk_drewN ?_ _ | refine blk_drew ?_ | refine blk_alloc ?_ _)); exact BK382.out⟩
  have n1_ : Aside0 (Below w.heap.size w (((w13.setCell ⟨gb382, 0, none⟩ (.int .i64 (wrap64 (Int.tmod a0 11)))).setCell ⟨gb382, 1, none⟩ (.int .i64 (wrap64 (Int.tmod a1 65)))).setCell ⟨gb382, 2, none⟩ (.int .i64 (wrap64 (Int.tmod a2 129))))) := ⟨by repeat (first | (with_reducible first | exact HB.out | apply below_alloc | apply pw_below_drewN | apply below_drew1 | refine below_set ?_ GE382.out) | exact HB.out)⟩
  (try clear BK382)
  (try clear HB)
  generalize (((w13.setCell ⟨gb382, 0, none⟩ (.int .i64 (wrap64 (Int.tmod a0 11)))).setCell ⟨gb382, 1, none⟩ (.int .i64 (wrap64 (Int.tmod a1 65)))).setCell ⟨gb382, 2, none⟩ (.int .i64 (wrap64 (Int.tmod a2 129)))) = w15 at n0_ n1_ ⊢
  have BK382 := n0_
  have HB := n1_
  clear n0_ n1_
  have n0_ := Aside0.mk (blk_drew BK382.out)
  have n1_ := Aside0.mk (below_drew1 HB.out)
  clear BK382
  clear HB
  have BK382 := n0_
  have HB := n1_
  clear n0_ n1_
  refine start_ (n := 12) (S := fun w' => w'.cell? ⟨gb382, 0, none⟩ = some (.int .i64 (wrap64 (Int.tmod a0 11))) ∧ w'.cell? ⟨gb382, 1, none⟩ = some (.int .i64 (wrap64 (Int.tmod a1 65))) ∧ w'.cell? ⟨gb382, 2, none⟩ = some (.int .i64 (wrap64 (Int.tmod a2 129)))) (ds := []) #[false, false, false, false, false, false, false, false, false, false, false, false] (by kernel_rfl) rfl rfl ⟨(blk_cell BK382.out 0).trans rfl, (blk_cell BK382.out 1).trans rfl, (blk_cell BK382.out 2).trans rfl⟩ (fun hHeld => ?_); refine with_tabW keepsakelaw04_HeadBursts.tab3 keepsakelaw04_HeadBursts.bits3 (fun HT_ HW_ => ?_)
  generalize w15.drew = w16 at BK382 HB hHeld ⊢
  refine pure_ (i := 3) (N := some 40) (v := ?_) (a' := ?_) #[false, false, false, true, false, false, false, false, false, false, false, false] rfl rfl (any_of HT_.out (by kernel_rfl)) (fun _ _ _ h => h) (Or.inl ⟨by rfl, ?_⟩) ?_ ?_
  rotate_left
  · intro w'
    go_simp
    with_reducible rfl
  rotate_left
  · simp only [Act.put, List.setIfInBounds_toArray, List.set_cons_zero, List.set_cons_succ, i64_w, i32_w]
    rfl
  refine pure_ (i := 4) (N := some 41) (v := ?_) (a' := ?_) #[false, false, false, true, true, false, false, false, false, false, false, false] rfl rfl (any_of HT_.out (by kernel_rfl)) (fun _ _ _ h => h) (Or.inl ⟨by rfl, ?_⟩) ?_ ?_
  rotate_left
  · intro w'
    go_simp
    with_reducible rfl
  rotate_left
  · simp only [Act.put, List.setIfInBounds_toArray, List.set_cons_zero, List.set_cons_succ, i64_w, i32_w]
    rfl
  refine take_ (i := 0) (N := some 37) (v := ?_) (a' := ?_) #[true, false, false, true, true, false, false, false, false, false, false, false] rfl rfl (take_ofW HT_.out HW_.out (by kernel_rfl)) (fun _ _ _ h => h) (Or.inl ⟨by rfl, ?_⟩) hHeld ?_ ?_
  rotate_left
  · rintro w' ⟨s0, s1, s2⟩
    go_simp
    with_reducible rfl
  rotate_left
  · simp only [Act.put, List.setIfInBounds_toArray, List.set_cons_zero, List.set_cons_succ, i64_w, i32_w]
    rfl
  refine take_ (i := 1) (N := some 38) (v := ?_) (a' := ?_) #[true, true, false, true, true, false, false, false, false, false, false, false] rfl rfl (take_ofW HT_.out HW_.out (by kernel_rfl)) (fun _ _ _ h => h) (Or.inl ⟨by rfl, ?_⟩) hHeld ?_ ?_
  rotate_left
  · rintro w' ⟨s0, s1, s2⟩
    go_simp
    with_reducible rfl
  rotate_left
  · simp only [Act.put, List.setIfInBounds_toArray, List.set_cons_zero, List.set_cons_succ, i64_w, i32_w]
    rfl
  refine one_ (i := 2) (N := some 39) #[true, true, true, true, true, false, false, false, false, false, false, false] rfl rfl (one_of HT_.out (by kernel_rfl)) (by decide) (fun K hK => ?_)
  refine goes_ Tryd.func17 (by kernel_rfl) rfl #[.agg #[.int .i64 (wrap64 (Int.tmod a0 11)), .int .i64 (wrap64 (Int.tmod a1 65)), .int .i64 (wrap64 (Int.tmod a2 129))]] (by rfl) rfl rfl (by (try simp only [List.map_toArray, List.map_cons, List.map_nil]); first | done | rfl | (simp only [List.length_drop, List.length_take]; rfl)) ?_
  with_reducible refine (geo_Total.calls (wrap64 (Int.tmod a0 11)) (wrap64 (Int.tmod a1 65)) (wrap64 (Int.tmod a2 129)) t383 _ ?sideG A9.out).mono ?_
  (case sideG => repeat (first | exact Laid.below HG.out HB.out | exact HG.out | (with_reducible refine Laid.alloc ?_ _) | (with_reducible refine Laid.drewN ?_ _) | (with_reducible refine Laid.drew ?_)))
  rintro e w17 ⟨rfl, hb⟩
  refine ⟨_, rfl, ?_⟩
  have n0_ := Aside0.mk (blk_below (g := gb382) (o := .cells #[.int .i64 (wrap64 (Int.tmod a0 11)), .int .i64 (wrap64 (Int.tmod a1 65)), .int .i64 (wrap64 (Int.tmod a2 129))] 23 (0, 0)) (by (with_reducible repeat (first | refine blk_drewN ?_ _ | refine blk_drew ?_ | refine blk_alloc ?_ _)); exact BK382.out) hb)
  have n1_ := Aside0.mk (below_step (by repeat (first | (with_reducible first | exact HB.out | apply below_alloc | apply pw_below_drewN | apply below_drew1 | refine below_set ?_ GE382.out) | exact HB.out)) hb)
  clear BK382
  clear HB
  have BK382 := n0_
  have HB := n1_
  clear n0_ n1_
  (try clear hb)
  (try clear hb2)
  (try clear hk)
  (try clear hi)
  refine hK.out _ _ ⟨(blk_cell BK382.out 0).trans rfl, (blk_cell BK382.out 1).trans rfl, (blk_cell BK382.out 2).trans rfl⟩ (fun hHeld => ?_)
  clear hK K
  refine norm_ (a' := ?_) ?_ ?_
  rotate_left
  · show Act.put _ (some 39) _ = _
    simp only [Act.put, List.setIfInBounds_toArray, List.set_cons_zero, List.set_cons_succ, i64_w, i32_w]
    rfl
  refine pure_ (i := 5) (N := some 42) (v := ?_) (a' := ?_) #[true, true, true, true, true, true, false, false, false, false, false, false] rfl rfl (any_of HT_.out (by kernel_rfl)) (fun _ _ _ h => h) (Or.inl ⟨by rfl, ?_⟩) ?_ ?_
  rotate_left
  · intro w'
    go_simp
    with_reducible rfl
  rotate_left
  · simp only [Act.put, List.setIfInBounds_toArray, List.set_cons_zero, List.set_cons_succ, i64_w, i32_w]
    rfl
  refine one_ (i := 6) (N := some 43) #[true, true, true, true, true, true, true, false, false, false, false, false] rfl rfl (one_of HT_.out (by kernel_rfl)) (by decide) (fun K hK => ?_)
  refine goes_ Tryd.func10 (by kernel_rfl) rfl #[.agg #[.int .i64 (wrap64 (Int.tmod a0 11)), .int .i64 (wrap64 (Int.tmod a1 65)), .int .i64 (wrap64 (Int.tmod a2 129)), .int .i64 t383, .int .u64 a3, .int .u32 a4]] (by rfl) rfl rfl (by (try simp only [List.map_toArray, List.map_cons, List.map_nil]); first | done | rfl | (simp only [List.length_drop, List.length_take]; rfl)) ?_
  with_reducible refine (head_Encode.calls k (wrap64 (Int.tmod a0 11)) (wrap64 (Int.tmod a1 65)) (wrap64 (Int.tmod a2 129)) t383 a3 a4 t384 t387 _ ?sideG A10.out).mono ?_
  (case sideG => repeat (first | exact Laid.below HG.out HB.out | exact HG.out | (with_reducible refine Laid.alloc ?_ _) | (with_reducible refine Laid.drewN ?_ _) | (with_reducible refine Laid.drew ?_)))
  rintro e w18 ⟨v385, rfl, ho0, hb⟩
  refine ⟨_, rfl, ?_⟩
  have n0_ := Aside0.mk (Kd.R_lower ho0 (below_size (by repeat (first | (with_reducible first | exact HB.out | apply below_alloc | apply pw_below_drewN | apply below_drew1 | refine below_set ?_ GE382.out) | exact HB.out))))
  have n1_ := Aside0.mk (blk_below (g := gb382) (o := .cells #[.int .i64 (wrap64 (Int.tmod a0 11)), .int .i64 (wrap64 (Int.tmod a1 65)), .int .i64 (wrap64 (Int.tmod a2 129))] 23 (0, 0)) (by (with_reducible repeat (first | refine blk_drewN ?_ _ | refine blk_drew ?_ | refine blk_alloc ?_ _)); exact BK382.out) hb)
  have n2_ := Aside0.mk (below_step (by repeat (first | (with_reducible first | exact HB.out | apply below_alloc | apply pw_below_drewN | apply below_drew1 | refine below_set ?_ GE382.out) | exact HB.out)) hb)
  clear BK382
  clear HB
  have HO386 := n0_
  have BK382 := n1_
  have HB := n2_
  clear n0_ n1_ n2_
  (try clear hb)
  (try clear hb2)
  (try clear hk)
  (try clear hi)
  (try clear ho0)
  refine hK.out _ _ ⟨(blk_cell BK382.out 0).trans rfl, (blk_cell BK382.out 1).trans rfl, (blk_cell BK382.out 2).trans rfl⟩ (fun hHeld => ?_)
  clear hK K
  refine norm_ (a' := ?_) ?_ ?_
  rotate_left
  · show Act.put _ (some 43) _ = _
    simp only [Act.put, List.setIfInBounds_toArray, List.set_cons_zero, List.set_cons_succ, i64_w, i32_w]
    rfl
  refine pure_ (i := 7) (N := some 36) (v := ?_) (a' := ?_) #[true, true, true, true, true, true, true, true, false, false, false, false] rfl rfl (any_of HT_.out (by kernel_rfl)) (fun _ _ _ h => h) (Or.inl ⟨by rfl, ?_⟩) ?_ ?_
  rotate_left
  · intro w'
    go_simp
    with_reducible rfl
  rotate_left
  · simp only [Act.put, List.setIfInBounds_toArray, List.set_cons_zero, List.set_cons_succ, i64_w, i32_w]
    rfl
  refine pure_ (i := 8) (N := some 44) (v := ?_) (a' := ?_) #[true, true, true, true, true, true, true, true, true, false, false, false] rfl rfl (any_of HT_.out (by kernel_rfl)) (fun _ _ _ h => h) (Or.inl ⟨by rfl, ?_⟩) ?_ ?_
  rotate_left
  · intro w'
    go_simp
    with_reducible rfl
  rotate_left
  · simp only [Act.put, List.setIfInBounds_toArray, List.set_cons_zero, List.set_cons_succ, i64_w, i32_w]
    rfl
  refine pure_ (i := 9) (N := some 45) (v := ?_) (a' := ?_) #[true, true, true, true, true, true, true, true, true, true, false, false] rfl rfl (any_of HT_.out (by kernel_rfl)) (fun _ _ _ h => h) (Or.inl ⟨by rfl, ?_⟩) ?_ ?_
  rotate_left
  · intro w'
    go_simp
    with_reducible rfl
  rotate_left
  · simp only [Act.put, List.setIfInBounds_toArray, List.set_cons_zero, List.set_cons_succ, i64_w, i32_w]
    rfl
  refine pure_ (i := 10) (N := some 17) (v := ?_) (a' := ?_) #[true, true, true, true, true, true, true, true, true, true, true, false] rfl rfl (any_of HT_.out (by kernel_rfl)) (fun _ _ _ h => h) (Or.inl ⟨by rfl, ?_⟩) ?_ ?_
  rotate_left
  · intro w'
    go_simp
    with_reducible rfl
  rotate_left
  · simp only [Act.put, List.setIfInBounds_toArray, List.set_cons_zero, List.set_cons_succ, i64_w, i32_w]
    rfl
  refine pure_ (i := 11) (N := some 18) (v := ?_) (a' := ?_) #[true, true, true, true, true, true, true, true, true, true, true, true] rfl rfl (any_of HT_.out (by kernel_rfl)) (fun _ _ _ h => h) (Or.inl ⟨by rfl, ?_⟩) ?_ ?_
  rotate_left
  · intro w'
    go_simp
    with_reducible rfl
  rotate_left
  · simp only [Act.put, List.setIfInBounds_toArray, List.set_cons_zero, List.set_cons_succ, i64_w, i32_w]
    rfl
  refine done_ (done_of HT_.out (by kernel_rfl)) ?_
  go_upto_region 4 with (fail)
  go_cut [52] (fun v52 wc => ∃ (kq : Nat) (x52_10 : Bool), v52 = .bool x52_10 ∧ Aside0 (keepsakelaw04_HeadBursts.j0 kq a5 a6 t381 t384 x52_10 = some r) ∧ Aside0 (kq ≤ k) ∧ Aside0 (Kd.R (Kd.int .u8) 5 wc w.heap.size (fun _ => True) v385 t384) ∧ Aside0 (wc.heap[gb382]? = some (.cells #[.int .i64 (wrap64 (Int.tmod a0 11)), .int .i64 (wrap64 (Int.tmod a1 65)), .int .i64 (wrap64 (Int.tmod a2 129))] 23 (0, 0))) ∧ Aside0 (Below w.heap.size w wc))
  case first =>
    have H := HC11.out
    clear HC11
    by_cases c19 : t387 = 0
    · rw [if_pos c19] at H
      have c19b0 : (t387 == 0) = true := beq_iff_eq.mpr c19
      have c19b1 : (t387 != 0) = false := bne_eq_false_iff_eq.mpr c19
      clear c19
      (first | rw [c19b0] | (simp only [i64_w, i32_w]; rw [c19b0]) | skip)
      have H' := Aside0.mk H
      clear H
      obtain ⟨Ao20, co20, eo20⟩ := Kd.R_slice HO386.out
      subst eo20
      go_wp2
      go_meet
      case rel => exact ⟨_, (((t384.length : Int) != 28)), (by first | rfl | (simp; done) | (simp [*]; done) | (simp; omega)), H', ⟨by first | omega | exact Nat.le_refl _⟩, ⟨by (with_reducible repeat (first | apply Kd.R_alloc | apply Kd.R_drewN | apply Kd.R_drew)); exact HO386.out⟩, ⟨by (with_reducible repeat (first | refine blk_drewN ?_ _ | refine blk_drew ?_ | refine blk_alloc ?_ _)); exact BK382.out⟩, ⟨by repeat (first | (with_reducible first | exact HB.out | apply below_alloc | apply pw_below_drewN | apply below_drew1 | refine below_set ?_ GE382.out) | exact HB.out)⟩⟩
    · rw [if_neg c19] at H
      have c19b0 : (t387 == 0) = false := beq_eq_false_iff_ne.mpr c19
      have c19b1 : (t387 != 0) = true := bne_iff_ne.mpr c19
      (first | rw [c19b0] | (simp only [i64_w, i32_w]; rw [c19b0]) | skip)
      have H' := Aside0.mk H
      clear H
      go_wp2
      go_meet
      case rel => exact ⟨_, (true), (by first | rfl | (simp; done) | (simp [*]; done) | (simp; omega)), H', ⟨by first | omega | exact Nat.le_refl _⟩, ⟨by (with_reducible repeat (first | apply Kd.R_alloc | apply Kd.R_drewN | apply Kd.R_drew)); exact HO386.out⟩, ⟨by (with_reducible repeat (first | refine blk_drewN ?_ _ | refine blk_drew ?_ | refine blk_alloc ?_ _)); exact BK382.out⟩, ⟨by repeat (first | (with_reducible first | exact HB.out | apply below_alloc | apply pw_below_drewN | apply below_drew1 | refine below_set ?_ GE382.out) | exact HB.out)⟩⟩
  case rest =>
    clear HC11
    try clear c1
    try clear p2
    try clear c6
    try clear p6
    try clear c9
    try clear c10
    try clear c17
    try clear c19
    try clear c19b0
    try clear c19b1
    try clear hcz14_0
    try clear hcz14_1
    try clear hcz14_2
    try clear hfz14_0
    try clear hfz14_1
    try clear hfz14_2
    obtain ⟨kq, x52_10, rfl, HA, HJ10, HO_17, BK382, HB⟩ := hcut
    cases kq with
    | zero => exact absurd HA.out (by simp [keepsakelaw04_HeadBursts.j0])
    | succ kj10 =>
      have H := HA.out
      clear HA
      simp only [keepsakelaw04_HeadBursts.j0] at H
      by_cases c21 : x52_10 = true
      · subst c21
        have H1 : (none) = some r := by rw [if_pos rfl] at H; exact H
        clear H
        have H := H1
        clear H1
        exact absurd H (by simp)
      · replace c21 := Bool.eq_false_iff.mpr c21
        subst c21
        have H1 : ((some (([] : List Int) : List Int)).bind fun y388 => (if y388.length + t384.length < 140737488355328 then (keepsakelaw04_HeadBursts.l0 kj10 a6 t381 t384 (y388 ++ t384) (Int.tmod (wrap64 (a5)) 224) 0) else (none))) = some r := by rw [if_neg (show ¬ (false = true) by decide)] at H; exact H
        clear H
        have H := H1
        clear H1
        obtain ⟨y388, hy388⟩ : ∃ y_ : List Int, y_ = (([] : List Int)) := ⟨_, rfl⟩
        replace H : (if y388.length + t384.length < 140737488355328 then (keepsakelaw04_HeadBursts.l0 kj10 a6 t381 t384 (y388 ++ t384) (Int.tmod (wrap64 (a5)) 224) 0) else (none)) = some r := by first | (rw [hy388]; with_reducible exact H) | (have H2_ := (Option.bind_some _ _).symm.trans H; rw [hy388]; with_reducible exact H2_) | (have H2_ := (Option.bind_some _ _).symm.trans H; with_reducible exact H2_) | with_reducible exact H | (rw [hy388]; exact H) | exact H
        have Ny388 := Aside0.mk hy388
        clear hy388
        by_cases c22 : y388.length + t384.length < 140737488355328
        · rw [if_pos c22] at H
          have LMc22 := Aside0.mk c22
          clear c22
          obtain ⟨y391, hy391⟩ : ∃ y_ : List Int, y_ = (y388 ++ t384) := ⟨_, rfl⟩
          replace H : (keepsakelaw04_HeadBursts.l0 kj10 a6 t381 t384 y391 (Int.tmod (wrap64 (a5)) 224) 0) = some r := by first | (rw [hy391]; with_reducible exact H) | (have H2_ := (Option.bind_some _ _).symm.trans H; rw [hy391]; with_reducible exact H2_) | (have H2_ := (Option.bind_some _ _).symm.trans H; with_reducible exact H2_) | with_reducible exact H | (rw [hy391]; exact H) | exact H
          have Ny391 := Aside0.mk hy391
          clear hy391
          have H' := Aside0.mk H
          clear H
          go_wp2_with (first | ((with_reducible refine gate_dst (N := 53) rfl ?_); (try (refine gate_guard (by rfl) ?_; dsimp only)); refine Kd.R_lit (Kd.int .u8) _ 5 ?hg (N := 53) ?hd (xs := ([] : List Int)) (inner := []) (ok := fun _ => True) (okp := fun _ => True) ?hr ?hp (fun _ hk => hk) trivial (Below.refl _ _) (Nat.le_refl _) (by simp) ?_; (case hd => rfl); (case hg => rfl); (case hr => first | (go_simp; done) | (go_simp; rfl)); (case hp => exact (Reps.none _ _)); intro v389 w23 ho24 hb hg_ hnew_; clear hg_ hnew_; (first | rw [← Ny388.out] at ho24 | (simp only [Int.reduceToNat] at ho24; rw [← Ny388.out] at ho24)); have n0_ := Aside0.mk (Kd.R_elder' (by (with_reducible repeat (first | apply Kd.R_alloc | apply Kd.R_drewN | apply Kd.R_drew)); exact HO_17.out) (Kd.R_base ho24) hb); have n1_ := Aside0.mk (Kd.R_lower (Kd.R_new' ho24 (Kd.R_lt (by (with_reducible repeat (first | apply Kd.R_alloc | apply Kd.R_drewN | apply Kd.R_drew)); exact HO_17.out))) (below_size (by repeat (first | (with_reducible first | exact HB.out | apply below_alloc | apply pw_below_drewN | apply below_drew1 | refine below_set ?_ GE382.out) | exact HB.out)))); have n2_ := Aside0.mk (blk_below (g := gb382) (o := .cells #[.int .i64 (wrap64 (Int.tmod a0 11)), .int .i64 (wrap64 (Int.tmod a1 65)), .int .i64 (wrap64 (Int.tmod a2 129))] 23 (0, 0)) (by (with_reducible repeat (first | refine blk_drewN ?_ _ | refine blk_drew ?_ | refine blk_alloc ?_ _)); exact BK382.out) hb); have n3_ := Aside0.mk (below_step (by repeat (first | (with_reducible first | exact HB.out | apply below_alloc | apply pw_below_drewN | apply below_drew1 | refine below_set ?_ GE382.out) | exact HB.out)) hb); clear HO_17; clear BK382; clear HB; have HO_17 := n0_; have HO390 := n1_; have BK382 := n2_; have HB := n3_; clear n0_ n1_ n2_ n3_; clear hb ho24; obtain ⟨Ao26, co26, eo26⟩ := Kd.R_slice HO_17.out; subst eo26) | ((with_reducible refine gate_builtin (b := .append) (xs := #[.tmp 53, .tmp 54]) rfl ?_); (try (refine gate_guard (by rfl) ?_; dsimp only)); at_builtin; refine Kd.R_append_rows (Kd.int .u8) (w0 := w) w.heap.size rfl (.tmp 53) (.tmp 54) 29 5 (.int .u8 0) 1 rfl Tryd.underlying29 info5 rfl (by decide) (by omega) v389 y388 t384 _ _ _ (fun k_ => some k_ ≠ (.slice Ao26 t384.length co26 : Value).ownBlock) (fun _ => False) rfl rfl ?aO ?aR (fun _ _ h => h) (fun _ h => h.elim) ?aF ?aB ?aS ?aL ?_; (case aR => repeat (first | exact (Kd.R_reads' HO_17.out).2.2 | (with_reducible refine Kd.C_alloc ?_ _) | (with_reducible refine Kd.C_drewN ?_ _) | (with_reducible refine Kd.C_drew ?_))); (case aB => exact (by repeat (first | (with_reducible first | exact HB.out | apply below_alloc | apply pw_below_drewN | apply below_drew1 | refine below_set ?_ GE382.out) | exact HB.out))); (case aF => exact (fun k_ hk => Kd.fresh' (Kd.R_lt (by (with_reducible repeat (first | apply Kd.R_alloc | apply Kd.R_drewN | apply Kd.R_drew)); exact HO_17.out)) k_ hk)); (case aO => exact (by (with_reducible repeat (first | apply Kd.R_alloc | apply Kd.R_drewN | apply Kd.R_drew)); exact Kd.R_mono HO390.out (fun _ hk => hk.2))); (case aS => exact (below_size (by repeat (first | (with_reducible first | exact HB.out | apply below_alloc | apply pw_below_drewN | apply below_drew1 | refine below_set ?_ GE382.out) | exact HB.out)))); (case aL => have := LMc22.out; omega); intro v392 w25 ho hb hg hat; (first | rw [← Ny391.out] at ho | (simp only [Int.reduceToNat] at ho; rw [← Ny391.out] at ho)); have n0_ := Aside0.mk (Kd.R_after (ok := (fun _ => True)) (by (with_reducible repeat (first | apply Kd.R_alloc | apply Kd.R_drewN | apply Kd.R_drew)); exact HO_17.out) hg hat); have n1_ := Aside0.mk (blk_grown (g := gb382) (o := .cells #[.int .i64 (wrap64 (Int.tmod a0 11)), .int .i64 (wrap64 (Int.tmod a1 65)), .int .i64 (wrap64 (Int.tmod a2 129))] 23 (0, 0)) (by (with_reducible repeat (first | refine blk_drewN ?_ _ | refine blk_drew ?_ | refine blk_alloc ?_ _)); exact BK382.out) hg (Kd.R_ne HO390.out BK382.out (by decide))); have n2_ := Aside0.mk (hb); have n3_ := Aside0.mk (ho); clear HO_17; clear BK382; clear HB; clear HO390; have HO_17 := n0_; have BK382 := n1_; have HB := n2_; have HO393 := n3_; clear n0_ n1_ n2_ n3_; clear ho hb hg hat))
          go_loopg [21] kj10 (fun kq v21 w' => ∃ (x19_2 : List Int) (x21_2 : Int), v21 = .int .i64 x21_2 ∧ Aside0 (keepsakelaw04_HeadBursts.l0 kq a6 t381 t384 x19_2 (Int.tmod (wrap64 (a5)) 224) x21_2 = some r) ∧ Aside0 (kq ≤ kj10) ∧ Aside0 (Kd.R (Kd.int .u8) 5 w' w.heap.size (fun k_ => some k_ ≠ (v392 : Value).ownBlock) (.slice Ao26 t384.length co26) t384) ∧ Aside0 (Kd.R (Kd.int .u8) 5 w' w.heap.size (fun k_ => some k_ ≠ ((.slice Ao26 t384.length co26) : Value).ownBlock) v392 x19_2) ∧ Aside0 (w'.heap[gb382]? = some (.cells #[.int .i64 (wrap64 (Int.tmod a0 11)), .int .i64 (wrap64 (Int.tmod a1 65)), .int .i64 (wrap64 (Int.tmod a2 129))] 23 (0, 0))) ∧ Aside0 (Below w.heap.size w w'))
          case atStart => exact ⟨(y391), (0), (by first | rfl | (simp; done) | (simp [*]; done) | (simp; omega)), H', ⟨Nat.le_refl _⟩, ⟨by (with_reducible repeat (first | apply Kd.R_alloc | apply Kd.R_drewN | apply Kd.R_drew)); exact Kd.R_mono HO_17.out (fun _ hk => hk.2)⟩, ⟨by (with_reducible repeat (first | apply Kd.R_alloc | apply Kd.R_drewN | apply Kd.R_drew)); exact HO393.out⟩, ⟨by (with_reducible repeat (first | refine blk_drewN ?_ _ | refine blk_drew ?_ | refine blk_alloc ?_ _)); exact BK382.out⟩, ⟨by repeat (first | (with_reducible first | exact HB.out | apply below_alloc | apply pw_below_drewN | apply below_drew1 | refine below_set ?_ GE382.out) | exact HB.out)⟩⟩
          case round =>
            clear H'
            try clear c1
            try clear c2
            try clear p2
            try clear c6
            try clear p6
            try clear c9
            try clear c10
            try clear c17
            try clear c19
            try clear c19b0
            try clear c19b1
            try clear c21
            try clear c22
            try clear hcz14_0
            try clear hcz14_1
            try clear hcz14_2
            try clear hfz14_0
            try clear hfz14_1
            try clear hfz14_2
            try clear p2
            try clear p6
            obtain ⟨x19_2, x21_2, rfl, HA, HK2, HO_17, HO_19, BK382, HB⟩ := hrel
            cases gk with
            | zero => exact absurd HA.out (by simp [keepsakelaw04_HeadBursts.l0])
            | succ k2 =>
              have H := HA.out
              clear HA
              simp only [keepsakelaw04_HeadBursts.l0] at H
              have HC27 := Aside0.mk H
              clear H
              go_upto_region 9 with (fail)
              go_cut [66] (fun v66 wc => ∃ (kq : Nat) (x66_26 : Bool), v66 = .bool x66_26 ∧ Aside0 (keepsakelaw04_HeadBursts.j2 kq a6 t381 t384 x19_2 (Int.tmod (wrap64 (a5)) 224) x21_2 x66_26 = some r) ∧ Aside0 (kq ≤ k2) ∧ Aside0 (Kd.R (Kd.int .u8) 5 wc w.heap.size (fun k_ => some k_ ≠ (v392 : Value).ownBlock) (.slice Ao26 t384.length co26) t384) ∧ Aside0 (Kd.R (Kd.int .u8) 5 wc w.heap.size (fun k_ => some k_ ≠ ((.slice Ao26 t384.length co26) : Value).ownBlock) v392 x19_2) ∧ Aside0 (wc.heap[gb382]? = some (.cells #[.int .i64 (wrap64 (Int.tmod a0 11)), .int .i64 (wrap64 (Int.tmod a1 65)), .int .i64 (wrap64 (Int.tmod a2 129))] 23 (0, 0))) ∧ Aside0 (Below w.heap.size w wc))
              case first =>
                have H := HC27.out
                clear HC27
                by_cases c28 : x21_2 < 32
                · rw [if_pos c28] at H
                  have c28b0 : decide (x21_2 < 32) = true := decide_eq_true c28
                  clear c28
                  (first | rw [c28b0] | (simp only [i64_w, i32_w]; rw [c28b0]) | skip)
                  have H' := Aside0.mk H
                  clear H
                  go_wp2
                  go_meet
                  case rel => exact ⟨_, (decide ((wrap64 ((Int.tmod (wrap64 (a5)) 224) + x21_2)) < 224)), (by first | rfl | (simp; done) | (simp [*]; done) | (simp; omega)), H', ⟨by have := HJ10.out; have := HK2.out; first | omega | exact Nat.le_refl _⟩, ⟨by (with_reducible repeat (first | apply Kd.R_alloc | apply Kd.R_drewN | apply Kd.R_drew)); exact HO_17.out⟩, ⟨by (with_reducible repeat (first | apply Kd.R_alloc | apply Kd.R_drewN | apply Kd.R_drew)); exact HO_19.out⟩, ⟨by (with_reducible repeat (first | refine blk_drewN ?_ _ | refine blk_drew ?_ | refine blk_alloc ?_ _)); exact BK382.out⟩, ⟨by repeat (first | (with_reducible first | exact HB.out | apply below_alloc | apply pw_below_drewN | apply below_drew1 | refine below_set ?_ GE382.out) | exact HB.out)⟩⟩
                · rw [if_neg c28] at H
                  have c28b0 : decide (x21_2 < 32) = false := decide_eq_false c28
                  clear c28
                  (first | rw [c28b0] | (simp only [i64_w, i32_w]; rw [c28b0]) | skip)
                  have H' := Aside0.mk H
                  clear H
                  go_wp2
                  go_meet
                  case rel => exact ⟨_, (false), (by first | rfl | (simp; done) | (simp [*]; done) | (simp; omega)), H', ⟨by have := HJ10.out; have := HK2.out; first | omega | exact Nat.le_refl _⟩, ⟨by (with_reducible repeat (first | apply Kd.R_alloc | apply Kd.R_drewN | apply Kd.R_drew)); exact HO_17.out⟩, ⟨by (with_reducible repeat (first | apply Kd.R_alloc | apply Kd.R_drewN | apply Kd.R_drew)); exact HO_19.out⟩, ⟨by (with_reducible repeat (first | refine blk_drewN ?_ _ | refine blk_drew ?_ | refine blk_alloc ?_ _)); exact BK382.out⟩, ⟨by repeat (first | (with_reducible first | exact HB.out | apply below_alloc | apply pw_below_drewN | apply below_drew1 | refine below_set ?_ GE382.out) | exact HB.out)⟩⟩
              case rest =>
                clear HC27
                try clear c1
                try clear c2
                try clear p2
                try clear c6
                try clear p6
                try clear c9
                try clear c10
                try clear c17
                try clear c19
                try clear c19b0
                try clear c19b1
                try clear c21
                try clear c22
                try clear c28
                try clear c28b0
                try clear hcz14_0
                try clear hcz14_1
                try clear hcz14_2
                try clear hfz14_0
                try clear hfz14_1
                try clear hfz14_2
                try clear p2
                try clear p6
                obtain ⟨kq, x66_26, rfl, HA, HJ26, HO_17, HO_19, BK382, HB⟩ := hcut
                cases kq with
                | zero => exact absurd HA.out (by simp [keepsakelaw04_HeadBursts.j2])
                | succ kj26 =>
                  have H := HA.out
                  clear HA
                  simp only [keepsakelaw04_HeadBursts.j2] at H
                  by_cases c29 : x66_26 = true
                  · subst c29
                    have H1 : (if 0 ≤ x21_2 then (if (Go.bits .and .u32 (shr .u32 a6 x21_2) 1) = 1 then (if 0 ≤ (wrap64 (Int.tdiv (wrap64 ((Int.tmod (wrap64 (a5)) 224) + x21_2)) 8)) then (if (wrap64 (Int.tdiv (wrap64 ((Int.tmod (wrap64 (a5)) 224) + x21_2)) 8)) < (x19_2.length : Int) then (if 0 ≤ (Int.tmod (wrap64 ((Int.tmod (wrap64 (a5)) 224) + x21_2)) 8) then (keepsakelaw04_HeadBursts.l0 kj26 a6 t381 t384 (x19_2.set ((wrap64 (Int.tdiv (wrap64 ((Int.tmod (wrap64 (a5)) 224) + x21_2)) 8)) : Int).toNat (Go.bits .xor .u8 (rd x19_2 (wrap64 (Int.tdiv (wrap64 ((Int.tmod (wrap64 (a5)) 224) + x21_2)) 8))) (shl .u8 1 (Int.tmod (wrap64 ((Int.tmod (wrap64 (a5)) 224) + x21_2)) 8)))) (Int.tmod (wrap64 (a5)) 224) (wrap64 (x21_2 + 1))) else (none)) else (none)) else (none)) else (keepsakelaw04_HeadBursts.l0 kj26 a6 t381 t384 x19_2 (Int.tmod (wrap64 (a5)) 224) (wrap64 (x21_2 + 1)))) else (none)) = some r := by rw [if_pos rfl] at H; exact H
                    clear H
                    have H := H1
                    clear H1
                    by_cases c30 : 0 ≤ x21_2
                    · rw [if_pos c30] at H
                      have c30b0 := eq_true c30
                      have c30b1 : decide (0 ≤ x21_2) = true := decide_eq_true c30
                      clear c30
                      obtain ⟨ji31, hji31⟩ : ∃ j_ : Int, (shr .u32 a6 x21_2) = j_ := ⟨_, rfl⟩
                      replace H : (if (Go.bits .and .u32 (ji31) 1) = 1 then (if 0 ≤ (wrap64 (Int.tdiv (wrap64 ((Int.tmod (wrap64 (a5)) 224) + x21_2)) 8)) then (if (wrap64 (Int.tdiv (wrap64 ((Int.tmod (wrap64 (a5)) 224) + x21_2)) 8)) < (x19_2.length : Int) then (if 0 ≤ (Int.tmod (wrap64 ((Int.tmod (wrap64 (a5)) 224) + x21_2)) 8) then (keepsakelaw04_HeadBursts.l0 kj26 a6 t381 t384 (x19_2.set ((wrap64 (Int.tdiv (wrap64 ((Int.tmod (wrap64 (a5)) 224) + x21_2)) 8)) : Int).toNat (Go.bits .xor .u8 (rd x19_2 (wrap64 (Int.tdiv (wrap64 ((Int.tmod (wrap64 (a5)) 224) + x21_2)) 8))) (shl .u8 1 (Int.tmod (wrap64 ((Int.tmod (wrap64 (a5)) 224) + x21_2)) 8)))) (Int.tmod (wrap64 (a5)) 224) (wrap64 (x21_2 + 1))) else (none)) else (none)) else (none)) else (keepsakelaw04_HeadBursts.l0 kj26 a6 t381 t384 x19_2 (Int.tmod (wrap64 (a5)) 224) (wrap64 (x21_2 + 1)))) = some r := by first | (rw [hji31] at H; exact H) | (simp only [hji31] at H ⊢; exact H)
                      have hji31_ : (a6 / 2 ^ min x21_2.toNat 32) = ji31 := hji31
                      have hji31z : x21_2 ≤ 32 → (a6 / 2 ^ x21_2.toNat) = ji31 := shr_small hji31
                      by_cases c32 : (Go.bits .and .u32 (ji31) 1) = 1
                      · rw [if_pos c32] at H
                        have c32b0 : ((Go.bits .and .u32 (ji31) 1) == 1) = true := beq_iff_eq.mpr c32
                        have c32b1 : ((Go.bits .and .u32 (ji31) 1) != 1) = false := bne_eq_false_iff_eq.mpr c32
                        clear c32
                        obtain ⟨ji33, hji33⟩ : ∃ j_ : Int, (wrap64 (Int.tdiv (wrap64 ((Int.tmod (wrap64 (a5)) 224) + x21_2)) 8)) = j_ := ⟨_, rfl⟩
                        replace H : (if 0 ≤ (ji33) then (if (ji33) < (x19_2.length : Int) then (if 0 ≤ (Int.tmod (wrap64 ((Int.tmod (wrap64 (a5)) 224) + x21_2)) 8) then (keepsakelaw04_HeadBursts.l0 kj26 a6 t381 t384 (x19_2.set ((ji33) : Int).toNat (Go.bits .xor .u8 (rd x19_2 (ji33)) (shl .u8 1 (Int.tmod (wrap64 ((Int.tmod (wrap64 (a5)) 224) + x21_2)) 8)))) (Int.tmod (wrap64 (a5)) 224) (wrap64 (x21_2 + 1))) else (none)) else (none)) else (none)) = some r := by first | (rw [hji33] at H; exact H) | (simp only [hji33] at H ⊢; exact H)
                        have hji33w : (IntKind.i64.wrap (Int.tdiv (wrap64 ((Int.tmod (wrap64 (a5)) 224) + x21_2)) 8)) = ji33 := (i64_w _).trans hji33
                        by_cases c34 : 0 ≤ (ji33)
                        · rw [if_pos c34] at H
                          have c34b0 : decide (0 ≤ (ji33)) = true := decide_eq_true c34
                          clear c34
                          by_cases c35 : (ji33) < (x19_2.length : Int)
                          · rw [if_pos c35] at H
                            have c35b0 : decide ((ji33) < (x19_2.length : Int)) = true := decide_eq_true c35
                            clear c35
                            obtain ⟨ji36, hji36⟩ : ∃ j_ : Int, (Int.tmod (wrap64 ((Int.tmod (wrap64 (a5)) 224) + x21_2)) 8) = j_ := ⟨_, rfl⟩
                            replace H : (if 0 ≤ (ji36) then (keepsakelaw04_HeadBursts.l0 kj26 a6 t381 t384 (x19_2.set ((ji33) : Int).toNat (Go.bits .xor .u8 (rd x19_2 (ji33)) (shl .u8 1 (ji36)))) (Int.tmod (wrap64 (a5)) 224) (wrap64 (x21_2 + 1))) else (none)) = some r := by first | (rw [hji36] at H; exact H) | (simp only [hji36] at H ⊢; exact H)
                            by_cases c37 : 0 ≤ (ji36)
                            · rw [if_pos c37] at H
                              have c37b0 := eq_true c37
                              have c37b1 : decide (0 ≤ (ji36)) = true := decide_eq_true c37
                              clear c37
                              obtain ⟨ji38, hji38⟩ : ∃ j_ : Int, (shl .u8 1 (ji36)) = j_ := ⟨_, rfl⟩
                              replace H : (keepsakelaw04_HeadBursts.l0 kj26 a6 t381 t384 (x19_2.set ((ji33) : Int).toNat (Go.bits .xor .u8 (rd x19_2 (ji33)) (ji38))) (Int.tmod (wrap64 (a5)) 224) (wrap64 (x21_2 + 1))) = some r := by first | (rw [hji38] at H; exact H) | (simp only [hji38] at H ⊢; exact H)
                              have hji38_ : (IntKind.u8.wrap (1 * 2 ^ min (ji36).toNat 8)) = ji38 := hji38
                              have hji38z : (ji36) ≤ 8 → (IntKind.u8.wrap (1 * 2 ^ (ji36).toNat)) = ji38 := shl_small hji38
                              have hji38u : (IntKind.u8.wrap (2 ^ min (ji36).toNat 8)) = ji38 := by have h_ := hji38_; rw [Int.one_mul] at h_; exact h_
                              have hji38v : (ji36) ≤ 8 → (IntKind.u8.wrap (2 ^ (ji36).toNat)) = ji38 := fun hle_ => by have h_ := hji38z hle_; rw [Int.one_mul] at h_; exact h_
                              obtain ⟨y395, hy395⟩ : ∃ y_ : List Int, y_ = (x19_2.set ((ji33) : Int).toNat (Go.bits .xor .u8 (rd x19_2 (ji33)) (ji38))) := ⟨_, rfl⟩
                              replace H : (keepsakelaw04_HeadBursts.l0 kj26 a6 t381 t384 y395 (Int.tmod (wrap64 (a5)) 224) (wrap64 (x21_2 + 1))) = some r := by first | (rw [hy395]; with_reducible exact H) | (have H2_ := (Option.bind_some _ _).symm.trans H; rw [hy395]; with_reducible exact H2_) | (have H2_ := (Option.bind_some _ _).symm.trans H; with_reducible exact H2_) | with_reducible exact H | (rw [hy395]; exact H) | exact H
                              have Ny395 := Aside0.mk hy395
                              clear hy395
                              have H' := Aside0.mk H
                              clear H
                              try go_wp2
                              have n0_ := Aside0.mk (Kd.R_drew HO_17.out)
                              have n1_ := Aside0.mk (Kd.R_drew HO_19.out)
                              have n2_ := Aside0.mk (blk_drew BK382.out)
                              have n3_ := Aside0.mk (below_drew1 HB.out)
                              clear HO_17
                              clear HO_19
                              clear BK382
                              clear HB
                              have HO_17 := n0_
                              have HO_19 := n1_
                              have BK382 := n2_
                              have HB := n3_
                              clear n0_ n1_ n2_ n3_
                              obtain ⟨Ao41, co41, eo41⟩ := Kd.R_slice HO_19.out
                              (first | subst eo41 | (injection eo41 with f1_ f2_ f3_; have f4_ := f1_.symm; have f5_ := f3_.symm; clear f1_ f2_ f3_; subst f4_; subst f5_))
                              have p394 : 0 ≤ ((ji33) : Int) := of_decide_eq_true (by first | (with_reducible assumption) | assumption)
                              have q394 : (ji33) < (x19_2.length : Int) := of_decide_eq_true (by first | (with_reducible assumption) | assumption)
                              obtain ⟨ad394, e394, hx394_0⟩ := Kd.at_int (Kd.R_reads' HO_19.out).2.2 (ji33) p394 q394
                              cases e394
                              replace p394 := eq_true p394
                              replace q394 := eq_true q394
                              have p39 : 0 ≤ ((ji33) : Int) := of_decide_eq_true (by first | (with_reducible assumption) | assumption)
                              have q39 : ((ji33) : Int) < ((x19_2.length : Int) : Int) := of_decide_eq_true (by first | (with_reducible assumption) | assumption)
                              obtain ⟨go39, co39, eo39, gb39, gl39, cl39, HG39⟩ := Kd.R_form HO_19.out (by omega)
                              (first | cases eo39 | (injection eo39 with ea_ en_ ec_; (first | subst ea_ | (injection ea_ with ea_; subst ea_)); subst ec_; clear en_))
                              have GB39 := Aside0.mk gb39
                              have GG39 := Aside0.mk HG39
                              clear gb39 gl39 HG39
                              (first | simp only [add_plain] at hx394_0 | skip)
                              obtain ⟨hx39_0, hf39_0⟩ := Kd.R_celln 0 HO_19.out ((ji33) : Int) p39 q39
                              replace p39 := eq_true p39
                              replace q39 := eq_true q39
                              have HP42 := Kd.R_putn HO_19.out ((ji33) : Int) (Go.bits .xor .u8 (rd x19_2 (ji33)) (ji38))
                              rw [← Ny395.out] at HP42
                              have HQ42 := Aside0.mk HP42
                              clear HP42
                              refine start_ (n := 20) (S := fun w' => w'.cell? ⟨go39, ((ji33)).toNat, none⟩ = some (.int .u8 (rd x19_2 (ji33)))) (ds := [19]) #[false, false, false, false, false, false, false, false, false, false, false, false, false, false, false, false, false, false, false, false] (by kernel_rfl) rfl rfl (hx394_0) (fun hHeld => ?_); refine with_tabW keepsakelaw04_HeadBursts.tab12 keepsakelaw04_HeadBursts.bits12 (fun HT_ HW_ => ?_)
                              generalize wc.drew = w40 at HO_17 HO_19 BK382 HB GG39 HQ42 hf39_0 hx394_0 hx39_0 hHeld ⊢
                              refine pure_ (i := 0) (N := some 74) (v := ?_) (a' := ?_) #[true, false, false, false, false, false, false, false, false, false, false, false, false, false, false, false, false, false, false, false] rfl rfl (any_of HT_.out (by kernel_rfl)) (fun _ _ _ h => h) (Or.inl ⟨by rfl, ?_⟩) ?_ ?_
                              rotate_left
                              · intro w'
                                go_simp
                                with_reducible rfl
                              rotate_left
                              · simp only [Act.put, List.setIfInBounds_toArray, List.set_cons_zero, List.set_cons_succ, i64_w, i32_w]
                                rfl
                              refine pure_ (i := 1) (N := some 75) (v := ?_) (a' := ?_) #[true, true, false, false, false, false, false, false, false, false, false, false, false, false, false, false, false, false, false, false] rfl rfl (any_of HT_.out (by kernel_rfl)) (fun _ _ _ h => h) (Or.inl ⟨by rfl, ?_⟩) ?_ ?_
                              rotate_left
                              · intro w'
                                go_simp
                                with_reducible rfl
                              rotate_left
                              · simp only [Act.put, List.setIfInBounds_toArray, List.set_cons_zero, List.set_cons_succ, i64_w, i32_w]
                                rfl
                              refine pure_ (i := 2) (N := some 76) (v := ?_) (a' := ?_) #[true, true, true, false, false, false, false, false, false, false, false, false, false, false, false, false, false, false, false, false] rfl rfl (any_of HT_.out (by kernel_rfl)) (fun _ _ _ h => h) (Or.inl ⟨by rfl, ?_⟩) ?_ ?_
                              rotate_left
                              · intro w'
                                go_simp
                                with_reducible rfl
                              rotate_left
                              · simp only [Act.put, List.setIfInBounds_toArray, List.set_cons_zero, List.set_cons_succ, i64_w, i32_w]
                                rfl
                              refine pure_ (i := 3) (N := some 77) (v := ?_) (a' := ?_) #[true, true, true, true, false, false, false, false, false, false, false, false, false, false, false, false, false, false, false, false] rfl rfl (any_of HT_.out (by kernel_rfl)) (fun _ _ _ h => h) (Or.inl ⟨by rfl, ?_⟩) ?_ ?_
                              rotate_left
                              · intro w'
                                go_simp
                                with_reducible rfl
                              rotate_left
                              · simp only [Act.put, List.setIfInBounds_toArray, List.set_cons_zero, List.set_cons_succ, i64_w, i32_w]
                                rfl
                              refine pure_ (i := 4) (N := some 78) (v := ?_) (a' := ?_) #[true, true, true, true, true, false, false, false, false, false, false, false, false, false, false, false, false, false, false, false] rfl rfl (any_of HT_.out (by kernel_rfl)) (fun _ _ _ h => h) (Or.inl ⟨by rfl, ?_⟩) ?_ ?_
                              rotate_left
                              · intro w'
                                go_simp
                                with_reducible rfl
                              rotate_left
                              · simp only [Act.put, List.setIfInBounds_toArray, List.set_cons_zero, List.set_cons_succ, i64_w, i32_w]
                                rfl
                              refine pure_ (i := 5) (N := some 79) (v := ?_) (a' := ?_) #[true, true, true, true, true, true, false, false, false, false, false, false, false, false, false, false, false, false, false, false] rfl rfl (any_of HT_.out (by kernel_rfl)) (fun _ _ _ h => h) (Or.inl ⟨by rfl, ?_⟩) ?_ ?_
                              rotate_left
                              · intro w'
                                go_simp
                                with_reducible rfl
                              rotate_left
                              · simp only [Act.put, List.setIfInBounds_toArray, List.set_cons_zero, List.set_cons_succ, i64_w, i32_w]
                                rfl
                              refine pure_ (i := 6) (N := some 80) (v := ?_) (a' := ?_) #[true, true, true, true, true, true, true, false, false, false, false, false, false, false, false, false, false, false, false, false] rfl rfl (any_of HT_.out (by kernel_rfl)) (fun _ _ _ h => h) (Or.inl ⟨by rfl, ?_⟩) ?_ ?_
                              rotate_left
                              · intro w'
                                go_simp
                                with_reducible rfl
                              rotate_left
                              · simp only [Act.put, List.setIfInBounds_toArray, List.set_cons_zero, List.set_cons_succ, i64_w, i32_w]
                                rfl
                              refine pure_ (i := 7) (N := some 81) (v := ?_) (a' := ?_) #[true, true, true, true, true, true, true, true, false, false, false, false, false, false, false, false, false, false, false, false] rfl rfl (any_of HT_.out (by kernel_rfl)) (fun _ _ _ h => h) (Or.inl ⟨by rfl, ?_⟩) ?_ ?_
                              rotate_left
                              · intro w'
                                go_simp
                                with_reducible rfl
                              rotate_left
                              · simp only [Act.put, List.setIfInBounds_toArray, List.set_cons_zero, List.set_cons_succ, i64_w, i32_w]
                                rfl
                              refine pure_ (i := 8) (N := some 82) (v := ?_) (a' := ?_) #[true, true, true, true, true, true, true, true, true, false, false, false, false, false, false, false, false, false, false, false] rfl rfl (any_of HT_.out (by kernel_rfl)) (fun _ _ _ h => h) (Or.inl ⟨by rfl, ?_⟩) ?_ ?_
                              rotate_left
                              · intro w'
                                go_simp
                                with_reducible rfl
                              rotate_left
                              · simp only [Act.put, List.setIfInBounds_toArray, List.set_cons_zero, List.set_cons_succ, i64_w, i32_w]
                                rfl
                              refine pure_ (i := 9) (N := some 83) (v := ?_) (a' := ?_) #[true, true, true, true, true, true, true, true, true, true, false, false, false, false, false, false, false, false, false, false] rfl rfl (any_of HT_.out (by kernel_rfl)) (fun _ _ _ h => h) (Or.inl ⟨by rfl, ?_⟩) ?_ ?_
                              rotate_left
                              · intro w'
                                go_simp
                                with_reducible rfl
                              rotate_left
                              · simp only [Act.put, List.setIfInBounds_toArray, List.set_cons_zero, List.set_cons_succ, i64_w, i32_w]
                                rfl
                              refine pure_ (i := 10) (N := some 84) (v := ?_) (a' := ?_) #[true, true, true, true, true, true, true, true, true, true, true, false, false, false, false, false, false, false, false, false] rfl rfl (any_of HT_.out (by kernel_rfl)) (fun _ _ _ h => h) (Or.inl ⟨by rfl, ?_⟩) ?_ ?_
                              rotate_left
                              · intro w'
                                go_simp
                                with_reducible rfl
                              rotate_left
                              · simp only [Act.put, List.setIfInBounds_toArray, List.set_cons_zero, List.set_cons_succ, i64_w, i32_w]
                                rfl
                              refine pure_ (i := 12) (N := some 86) (v := ?_) (a' := ?_) #[true, true, true, true, true, true, true, true, true, true, true, false, true, false, false, false, false, false, false, false] rfl rfl (any_of HT_.out (by kernel_rfl)) (fun _ _ _ h => h) (Or.inl ⟨by rfl, ?_⟩) ?_ ?_
                              rotate_left
                              · intro w'
                                go_simp
                                with_reducible rfl
                              rotate_left
                              · simp only [Act.put, List.setIfInBounds_toArray, List.set_cons_zero, List.set_cons_succ, i64_w, i32_w]
                                rfl
                              refine pure_ (i := 13) (N := some 87) (v := ?_) (a' := ?_) #[true, true, true, true, true, true, true, true, true, true, true, false, true, true, false, false, false, false, false, false] rfl rfl (any_of HT_.out (by kernel_rfl)) (fun _ _ _ h => h) (Or.inl ⟨by rfl, ?_⟩) ?_ ?_
                              rotate_left
                              · intro w'
                                go_simp
                                with_reducible rfl
                              rotate_left
                              · simp only [Act.put, List.setIfInBounds_toArray, List.set_cons_zero, List.set_cons_succ, i64_w, i32_w]
                                rfl
                              refine pure_ (i := 14) (N := some 88) (v := ?_) (a' := ?_) #[true, true, true, true, true, true, true, true, true, true, true, false, true, true, true, false, false, false, false, false] rfl rfl (any_of HT_.out (by kernel_rfl)) (fun _ _ _ h => h) (Or.inl ⟨by rfl, ?_⟩) ?_ ?_
                              rotate_left
                              · intro w'
                                go_simp
                                with_reducible rfl
                              rotate_left
                              · simp only [Act.put, List.setIfInBounds_toArray, List.set_cons_zero, List.set_cons_succ, i64_w, i32_w]
                                rfl
                              refine pure_ (i := 15) (N := some 89) (v := ?_) (a' := ?_) #[true, true, true, true, true, true, true, true, true, true, true, false, true, true, true, true, false, false, false, false] rfl rfl (any_of HT_.out (by kernel_rfl)) (fun _ _ _ h => h) (Or.inl ⟨by rfl, ?_⟩) ?_ ?_
                              rotate_left
                              · intro w'
                                go_simp
                                with_reducible rfl
                              rotate_left
                              · simp only [Act.put, List.setIfInBounds_toArray, List.set_cons_zero, List.set_cons_succ, i64_w, i32_w]
                                rfl
                              refine pure_ (i := 16) (N := some 90) (v := ?_) (a' := ?_) #[true, true, true, true, true, true, true, true, true, true, true, false, true, true, true, true, true, false, false, false] rfl rfl (any_of HT_.out (by kernel_rfl)) (fun _ _ _ h => h) (Or.inl ⟨by rfl, ?_⟩) ?_ ?_
                              rotate_left
                              · intro w'
                                go_simp
                                with_reducible rfl
                              rotate_left
                              · simp only [Act.put, List.setIfInBounds_toArray, List.set_cons_zero, List.set_cons_succ, i64_w, i32_w]
                                rfl
                              refine take_ (i := 11) (N := some 85) (v := ?_) (a' := ?_) #[true, true, true, true, true, true, true, true, true, true, true, true, true, true, true, true, true, false, false, false] rfl rfl (take_ofW HT_.out HW_.out (by kernel_rfl)) (fun _ _ _ h => h) (Or.inl ⟨by rfl, ?_⟩) hHeld ?_ ?_
                              rotate_left
                              · intro w' s0
                                go_simp
                                with_reducible rfl
                              rotate_left
                              · simp only [Act.put, List.setIfInBounds_toArray, List.set_cons_zero, List.set_cons_succ, i64_w, i32_w]
                                rfl
                              refine pure_ (i := 17) (N := some 91) (v := ?_) (a' := ?_) #[true, true, true, true, true, true, true, true, true, true, true, true, true, true, true, true, true, true, false, false] rfl rfl (any_of HT_.out (by kernel_rfl)) (fun _ _ _ h => h) (Or.inl ⟨by rfl, ?_⟩) ?_ ?_
                              rotate_left
                              · intro w'
                                go_simp
                                with_reducible rfl
                              rotate_left
                              · simp only [Act.put, List.setIfInBounds_toArray, List.set_cons_zero, List.set_cons_succ, i64_w, i32_w]
                                rfl
                              refine pure_ (i := 18) (N := some 92) (v := ?_) (a' := ?_) #[true, true, true, true, true, true, true, true, true, true, true, true, true, true, true, true, true, true, true, false] rfl rfl (any_of HT_.out (by kernel_rfl)) (fun _ _ _ h => h) (Or.inl ⟨by rfl, ?_⟩) ?_ ?_
                              rotate_left
                              · intro w'
                                go_simp
                                with_reducible rfl
                              rotate_left
                              · simp only [Act.put, List.setIfInBounds_toArray, List.set_cons_zero, List.set_cons_succ, i64_w, i32_w]
                                rfl
                              refine last_ (i := 19) (N := none) #[true, true, true, true, true, true, true, true, true, true, true, true, true, true, true, true, true, true, true, true] rfl rfl (one_of HT_.out (by kernel_rfl)) (by decide) (fun K hK => ?_)
                              refine skip_ (w1 := ?_) (by rfl) rfl ?_ ?_
                              rotate_left
                              · go_simp
                                rfl
                              refine hK.out _ _ ?_
                              clear hK K
                              refine done_ (done_of HT_.out (by kernel_rfl)) ?_
                              try go_wp2
                              go_roundg kj26
                              case measure => have := HJ10.out; have := HK2.out; have := HJ26.out; omega
                              case rel => exact ⟨(y395), (wrap64 (x21_2 + 1)), (by first | rfl | (simp; done) | (simp [*]; done) | (simp; omega)), H', ⟨by have := HJ10.out; have := HK2.out; have := HJ26.out; omega⟩, ⟨by (with_reducible repeat (first | apply Kd.R_alloc | apply Kd.R_drewN | apply Kd.R_drew)); exact Kd.R_mono (Kd.R_far (p := ⟨go39, ((ji33) : Int).toNat, none⟩) (Kd.R_mono HO_17.out (fun k_ hk => (⟨hk, fun e_ => hk (by rw [e_]; rfl)⟩ : _ ∧ k_ ≠ go39))) (fun _ hk => hk.2) (.int .u8 (Go.bits .xor .u8 (rd x19_2 (ji33)) (ji38)))) (fun _ hk => hk.1)⟩, ⟨by (with_reducible repeat (first | apply Kd.R_alloc | apply Kd.R_drewN | apply Kd.R_drew)); exact HQ42.out⟩, ⟨by (with_reducible repeat (first | refine blk_drewN ?_ _ | refine blk_drew ?_ | refine blk_alloc ?_ _)); refine blk_far ?_ (by have h_ := Kd.R_ne HO_19.out BK382.out (by decide); intro e_; exact h_ (by rw [e_]; rfl)) _; (with_reducible repeat (first | refine blk_drewN ?_ _ | refine blk_drew ?_ | refine blk_alloc ?_ _)); exact BK382.out⟩, ⟨by repeat (first | (with_reducible first | exact HB.out | apply below_alloc | apply pw_below_drewN | apply below_drew1 | refine below_set ?_ GB39.out | refine below_set ?_ GE382.out) | exact HB.out)⟩⟩
                            · rw [if_neg c37] at H
                              exact absurd H (by simp)
                          · rw [if_neg c35] at H
                            exact absurd H (by simp)
                        · rw [if_neg c34] at H
                          exact absurd H (by simp)
                      · rw [if_neg c32] at H
                        have c32b0 : ((Go.bits .and .u32 (ji31) 1) == 1) = false := beq_eq_false_iff_ne.mpr c32
                        have c32b1 : ((Go.bits .and .u32 (ji31) 1) != 1) = true := bne_iff_ne.mpr c32
                        have H' := Aside0.mk H
                        clear H
                        go_wp2
                        go_roundg kj26
                        case measure => have := HJ10.out; have := HK2.out; have := HJ26.out; omega
                        case rel => exact ⟨(x19_2), (wrap64 (x21_2 + 1)), (by first | rfl | (simp; done) | (simp [*]; done) | (simp; omega)), H', ⟨by have := HJ10.out; have := HK2.out; have := HJ26.out; omega⟩, ⟨by (with_reducible repeat (first | apply Kd.R_alloc | apply Kd.R_drewN | apply Kd.R_drew)); exact HO_17.out⟩, ⟨by (with_reducible repeat (first | apply Kd.R_alloc | apply Kd.R_drewN | apply Kd.R_drew)); exact HO_19.out⟩, ⟨by (with_reducible repeat (first | refine blk_drewN ?_ _ | refine blk_drew ?_ | refine blk_alloc ?_ _)); exact BK382.out⟩, ⟨by repeat (first | (with_reducible first | exact HB.out | apply below_alloc | apply pw_below_drewN | apply below_drew1 | refine below_set ?_ GE382.out) | exact HB.out)⟩⟩
                    · rw [if_neg c30] at H
                      exact absurd H (by simp)
                  · replace c29 := Bool.eq_false_iff.mpr c29
                    subst c29
                    have H1 : ((head_Decode.f kj26 x19_2).bind fun bt396 => ((keepsakeref01_Same.f kj26 t384 x19_2).bind fun t404 => (if t381 = true then (some ((bt396.2.2.2.2.2.2 == 0) == t404)) else (none)))) = some r := by rw [if_neg (show ¬ (false = true) by decide)] at H; exact H
                    clear H
                    have H := H1
                    clear H1
                    replace H := Option.bind_eq_some_iff.mp H
                    obtain ⟨⟨t396, t397, t398, t399, t400, t401, t402⟩, A430, H⟩ := H
                    replace H : ((keepsakeref01_Same.f kj26 t384 x19_2).bind fun t404 => (if t381 = true then (some ((t402 == 0) == t404)) else (none))) = some r := H
                    have A43 := Aside0.mk A430
                    clear A430
                    replace H := Option.bind_eq_some_iff.mp H
                    obtain ⟨t404, A440, H⟩ := H
                    replace H : (if t381 = true then (some ((t402 == 0) == t404)) else (none)) = some r := H
                    have A44 := Aside0.mk A440
                    clear A440
                    by_cases c45 : t381 = true
                    · subst c45
                      have H1 : (some ((t402 == 0) == t404)) = some r := by rw [if_pos rfl] at H; exact H
                      clear H
                      have H := H1
                      clear H1
                      obtain rfl := Option.some.inj H
                      obtain ⟨Ao46, co46, eo46⟩ := Kd.R_slice HO_19.out
                      subst eo46
                      go_wp2_with (first | ((with_reducible refine gate_callee (f := 13) rfl ?_); refine goesL_ (some 95) rfl rfl Tryd.func13 (by kernel_rfl) rfl #[.slice Ao46 x19_2.length co46] rfl (by (try simp only [List.map_toArray, List.map_cons, List.map_nil]); first | done | rfl | (simp only [List.length_drop, List.length_take]; rfl)) ?_; (with_reducible refine (head_Decode.calls kj26 _ _ x19_2 t396 t397 t398 t399 t400 t401 t402 _ ?sideG ?side1 ?side2 A43.out).mono ?_); (case sideG => first | exact Laid.below HG.out (by repeat (first | (with_reducible first | exact HB.out | apply below_alloc | apply pw_below_drewN | apply below_drew1 | refine below_set ?_ GE382.out) | exact HB.out)) | repeat (first | exact Laid.below HG.out HB.out | exact HG.out | (with_reducible refine Laid.alloc ?_ _) | (with_reducible refine Laid.drewN ?_ _) | (with_reducible refine Laid.drew ?_))); (case side1 => repeat (first | exact (Kd.R_reads' HO_19.out).2.2 | (with_reducible refine Kd.C_alloc ?_ _) | (with_reducible refine Kd.C_drewN ?_ _) | (with_reducible refine Kd.C_drew ?_))); (case side2 => exact (Kd.R_reads' HO_19.out).2.1); rintro e w47 ⟨rfl, hb⟩; refine ⟨_, rfl, ?_⟩; have n0_ := Aside0.mk (Kd.R_below (by (with_reducible repeat (first | apply Kd.R_alloc | apply Kd.R_drewN | apply Kd.R_drew)); exact HO_17.out) hb); have n1_ := Aside0.mk (Kd.R_below (by (with_reducible repeat (first | apply Kd.R_alloc | apply Kd.R_drewN | apply Kd.R_drew)); exact HO_19.out) hb); have n2_ := Aside0.mk (blk_below (g := gb382) (o := .cells #[.int .i64 (wrap64 (Int.tmod a0 11)), .int .i64 (wrap64 (Int.tmod a1 65)), .int .i64 (wrap64 (Int.tmod a2 129))] 23 (0, 0)) (by (with_reducible repeat (first | refine blk_drewN ?_ _ | refine blk_drew ?_ | refine blk_alloc ?_ _)); exact BK382.out) hb); have n3_ := Aside0.mk (below_step (by repeat (first | (with_reducible first | exact HB.out | apply below_alloc | apply pw_below_drewN | apply below_drew1 | refine below_set ?_ GE382.out) | exact HB.out)) hb); clear HO_17; clear HO_19; clear BK382; clear HB; have HO_17 := n0_; have HO_19 := n1_; have BK382 := n2_; have HB := n3_; clear n0_ n1_ n2_ n3_; (try clear hb); (try clear hb2); (try clear hk); (try clear hi)) | ((with_reducible refine gate_dst (N := 22) rfl ?_); (try (refine gate_guard (by rfl) ?_; dsimp only)); refine box_event ?hg (N := 22) ?hd (cs := #[.int .i64 0, .int .i64 0, .int .i64 0, .int .i64 0, .int .u64 0, .int .u32 0]) (t := 27) ?hr ?_; (case hd => rfl); (case hg => rfl); (case hr => first | (go_simp; done) | (go_simp; rfl)); intro gb403 hg w48 hbox hb; have n0_ := Aside0.mk (Kd.R_below (by (with_reducible repeat (first | apply Kd.R_alloc | apply Kd.R_drewN | apply Kd.R_drew)); exact HO_17.out) hb); have n1_ := Aside0.mk (Kd.R_below (by (with_reducible repeat (first | apply Kd.R_alloc | apply Kd.R_drewN | apply Kd.R_drew)); exact HO_19.out) hb); have n2_ := Aside0.mk (blk_below (g := gb382) (o := .cells #[.int .i64 (wrap64 (Int.tmod a0 11)), .int .i64 (wrap64 (Int.tmod a1 65)), .int .i64 (wrap64 (Int.tmod a2 129))] 23 (0, 0)) (by (with_reducible repeat (first | refine blk_drewN ?_ _ | refine blk_drew ?_ | refine blk_alloc ?_ _)); exact BK382.out) hb); have n3_ := Aside0.mk (below_step (by repeat (first | (with_reducible first | exact HB.out | apply below_alloc | apply pw_below_drewN | apply below_drew1 | refine below_set ?_ GE382.out) | exact HB.out)) hb); have n4_ := Aside0.mk (hbox); have n5_ := Aside0.mk ((by rw [hg]; exact (below_size (by repeat (first | (with_reducible first | exact HB.out | apply below_alloc | apply pw_below_drewN | apply below_drew1 | refine below_set ?_ GE382.out) | exact HB.out))) : w.heap.size ≤ gb403)); have n6_ := Aside0.mk ((by rw [hg]; exact (below_size (by repeat (first | (with_reducible first | exact HB.out | apply below_alloc | apply pw_below_drewN | apply below_drew1 | refine below_set ?_ GE382.out) | exact HB.out))) : w.heap.size ≤ gb403)); have n7_ := Aside0.mk ((by rw [hg]; exact Nat.ne_of_lt (blk_lt (g := gb382) (o := .cells #[.int .i64 (wrap64 (Int.tmod a0 11)), .int .i64 (wrap64 (Int.tmod a1 65)), .int .i64 (wrap64 (Int.tmod a2 129))] 23 (0, 0)) (by (with_reducible repeat (first | refine blk_drewN ?_ _ | refine blk_drew ?_ | refine blk_alloc ?_ _)); exact BK382.out)) : gb382 ≠ gb403)); have n8_ := Aside0.mk ((by rw [hg]; exact Nat.ne_of_gt (blk_lt (g := gb382) (o := .cells #[.int .i64 (wrap64 (Int.tmod a0 11)), .int .i64 (wrap64 (Int.tmod a1 65)), .int .i64 (wrap64 (Int.tmod a2 129))] 23 (0, 0)) (by (with_reducible repeat (first | refine blk_drewN ?_ _ | refine blk_drew ?_ | refine blk_alloc ?_ _)); exact BK382.out)) : gb403 ≠ gb382)); clear HO_17; clear HO_19; clear BK382; clear HB; have HO_17 := n0_; have HO_19 := n1_; have BK382 := n2_; have HB := n3_; have BK403 := n4_; have GW403 := n5_; have GE403 := n6_; have NB382_403 := n7_; have NB403_382 := n8_; clear n0_ n1_ n2_ n3_ n4_ n5_ n6_ n7_ n8_; clear hb hbox hg; have hnb49 := NB403_382.out; have hnc49 := NB382_403.out; have hcz50_0 : w48.cell? ⟨gb403, 0, none⟩ = some (.int .i64 0) := (blk_cell BK403.out 0).trans rfl; have hcz50_1 : w48.cell? ⟨gb403, 1, none⟩ = some (.int .i64 0) := (blk_cell BK403.out 1).trans rfl; have hcz50_2 : w48.cell? ⟨gb403, 2, none⟩ = some (.int .i64 0) := (blk_cell BK403.out 2).trans rfl; have hcz50_3 : w48.cell? ⟨gb403, 3, none⟩ = some (.int .i64 0) := (blk_cell BK403.out 3).trans rfl; have hcz50_4 : w48.cell? ⟨gb403, 4, none⟩ = some (.int .u64 0) := (blk_cell BK403.out 4).trans rfl; have hcz50_5 : w48.cell? ⟨gb403, 5, none⟩ = some (.int .u32 0) := (blk_cell BK403.out 5).trans rfl; have hfz50_0 := blk_frozen BK403.out 0; have hfz50_1 := blk_frozen BK403.out 1; have hfz50_2 := blk_frozen BK403.out 2; have hfz50_3 := blk_frozen BK403.out 3; have hfz50_4 := blk_frozen BK403.out 4; have hfz50_5 := blk_frozen BK403.out 5) | ((with_reducible refine gate_callee (f := 12) rfl ?_); refine goesL_ (some 100) rfl rfl Tryd.func12 (by kernel_rfl) rfl #[.slice Ao26 t384.length co26, .slice Ao46 x19_2.length co46] rfl (by (try simp only [List.map_toArray, List.map_cons, List.map_nil]); first | done | rfl | (simp only [List.length_drop, List.length_take]; rfl)) ?_; (with_reducible refine (keepsakeref01_Same.calls kj26 _ _ t384 _ _ x19_2 t404 _ ?side1 ?side2 ?side3 ?side4 A44.out).mono ?_); (case side1 => refine (Kd.R_reads' (e := 5) (base := w.heap.size) (ok := fun k_ => some k_ ≠ (.slice Ao46 x19_2.length co46 : Value).ownBlock) (n := t384.length) (c := co26) ?_).2.2; exact (by (with_reducible repeat (first | apply Kd.R_alloc | apply Kd.R_drewN | apply Kd.R_drew)); exact (Kd.R_mono (Kd.R_far (p := ⟨gb403, 5, none⟩) (Kd.R_far (p := ⟨gb403, 4, none⟩) (Kd.R_far (p := ⟨gb403, 3, none⟩) (Kd.R_far (p := ⟨gb403, 2, none⟩) (Kd.R_far (p := ⟨gb403, 1, none⟩) (Kd.R_far (p := ⟨gb403, 0, none⟩) (Kd.R_types HO_17.out BK403.out (by decide)) (fun _ hk => hk.2) (.int .i64 t396)) (fun _ hk => hk.2) (.int .i64 t397)) (fun _ hk => hk.2) (.int .i64 t398)) (fun _ hk => hk.2) (.int .i64 t399)) (fun _ hk => hk.2) (.int .u64 t400)) (fun _ hk => hk.2) (.int .u32 t401)) (fun _ h_ => h_.1)))); (case side2 => exact (Kd.R_reads' HO_17.out).2.1); (case side3 => refine (Kd.R_reads' (e := 5) (base := w.heap.size) (ok := fun k_ => some k_ ≠ (.slice Ao26 t384.length co26 : Value).ownBlock) (n := x19_2.length) (c := co46) ?_).2.2; exact (by (with_reducible repeat (first | apply Kd.R_alloc | apply Kd.R_drewN | apply Kd.R_drew)); exact (Kd.R_mono (Kd.R_far (p := ⟨gb403, 5, none⟩) (Kd.R_far (p := ⟨gb403, 4, none⟩) (Kd.R_far (p := ⟨gb403, 3, none⟩) (Kd.R_far (p := ⟨gb403, 2, none⟩) (Kd.R_far (p := ⟨gb403, 1, none⟩) (Kd.R_far (p := ⟨gb403, 0, none⟩) (Kd.R_types HO_19.out BK403.out (by decide)) (fun _ hk => hk.2) (.int .i64 t396)) (fun _ hk => hk.2) (.int .i64 t397)) (fun _ hk => hk.2) (.int .i64 t398)) (fun _ hk => hk.2) (.int .i64 t399)) (fun _ hk => hk.2) (.int .u64 t400)) (fun _ hk => hk.2) (.int .u32 t401)) (fun _ h_ => h_.1)))); (case side4 => exact (Kd.R_reads' HO_19.out).2.1); rintro e w' ⟨rfl, ⟨nd, rfl⟩⟩; refine ⟨_, rfl, ?_⟩))
                      go_ret
                      exact ⟨by first | rfl | (simp [errW_none, errW_some] <;> rfl) | (simp [*, errW_none, errW_some] <;> rfl), by repeat (first | (with_reducible first | exact HB.out | apply below_alloc | apply pw_below_drewN | apply below_drew1 | refine below_set ?_ GE382.out | refine below_set ?_ GE403.out) | exact HB.out)⟩
                    · replace c45 := Bool.eq_false_iff.mpr c45
                      subst c45
                      have H1 : (none) = some r := by rw [if_neg (show ¬ (false = true) by decide)] at H; exact H
                      clear H
                      have H := H1
                      clear H1
                      exact absurd H (by simp)
        · rw [if_neg c22] at H
          exact absurd H (by simp)

/-- THE ONE PURE STATEMENT of keepsakelaw04_HeadBursts: yours. -/
def keepsakelaw04_HeadBursts.Pure : Prop := ∀ (a0 : Int) (a1 : Int) (a2 : Int) (a3 : Int) (a4 : Int) (a5 : Int) (a6 : Int), (Lit.int .u8 a0).wf = true → (Lit.int .u8 a1).wf = true → (Lit.int .u8 a2).wf = true → (Lit.int .u64 a3).wf = true → (Lit.int .u32 a4).wf = true → (Lit.int .u8 a5).wf = true → (Lit.int .u32 a6).wf = true → ∃ k, keepsakelaw04_HeadBursts.f k a0 a1 a2 a3 a4 a5 a6 = some true
theorem keepsakelaw04_HeadBursts.walk (P : keepsakelaw04_HeadBursts.Pure) (a0 : Int) (a1 : Int) (a2 : Int) (a3 : Int) (a4 : Int) (a5 : Int) (a6 : Int) (w : World) (hG : Laid w) (w0 : (Lit.int .u8 a0).wf = true) (w1 : (Lit.int .u8 a1).wf = true) (w2 : (Lit.int .u8 a2).wf = true) (w3 : (Lit.int .u64 a3).wf = true) (w4 : (Lit.int .u32 a4).wf = true) (w5 : (Lit.int .u8 a5).wf = true) (w6 : (Lit.int .u32 a6).wf = true) :
    Calls Tryd.prog 6 #[.int .u8 a0, .int .u8 a1, .int .u8 a2, .int .u64 a3, .int .u32 a4, .int .u8 a5, .int .u32 a6] w fun e w' => e = .returned (.bool true) ∧ Below w.heap.size w w' := by
  obtain ⟨k, h⟩ := P a0 a1 a2 a3 a4 a5 a6 w0 w1 w2 w3 w4 w5 w6
  refine (keepsakelaw04_HeadBursts.calls k a0 a1 a2 a3 a4 a5 a6 true w hG h).mono ?_
  rintro e w' ⟨rfl, hd⟩
  exact ⟨rfl, hd⟩

end Go.Proofs.YtlinaijndlcfjaaDoor.All
