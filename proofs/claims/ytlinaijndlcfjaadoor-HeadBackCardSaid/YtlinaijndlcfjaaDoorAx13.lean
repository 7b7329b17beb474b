-- written by a program of mine (xprint_patch.py over the kit's print)
import Derived.Test.YtlinaijndlcfjaaDoorAx0
import Derived.Test.YtlinaijndlcfjaaDoorAx2
import Derived.Test.YtlinaijndlcfjaaDoorAx3
import Derived.Test.YtlinaijndlcfjaaDoorAx4
import Derived.Test.YtlinaijndlcfjaaDoorAx5
import Derived.Test.YtlinaijndlcfjaaDoorAx6
namespace Go.Proofs.YtlinaijndlcfjaaDoor.Given
end Go.Proofs.YtlinaijndlcfjaaDoor.Given
namespace Go.Proofs.YtlinaijndlcfjaaDoor.All
open Go.Proofs.YtlinaijndlcfjaaDoor.Given
open Go.RowKit Go.Proofs.YtlinaijndlcfjaaDoorW.PrintWords Go.Proofs.YtlinaijndlcfjaaDoorW.PrintLast Go.Proofs.YtlinaijndlcfjaaDoorW.PrintMore
attribute [local go_sem] max2_int min2_int max_two min_two max_three min_three max_four min_four   -- for this text's walks alone
set_option linter.unusedVariables false
set_option linter.unusedSimpArgs false

attribute [local go_sem high] eqA27
/-! ### keepsakelaw04_HeadBack: function 5 -/
def keepsakelaw04_HeadBack.j0 : Nat → List Int → Bool → List Int → Bool → Int → Int → Int → Int → Int → Int → Option (Bool)
  | 0, _, _, _, _, _, _, _, _, _, _ => none
  | k + 1, x5, x13, x16, x54, x348000, x348001, x348002, x348003, x348004, x348005 => if x54 = true then (none) else ((some (([] : List Int) : List Int)).bind fun y352 => (if y352.length + x16.length < 140737488355328 then ((some (y352 ++ x16 : List Int)).bind fun y355 => (if y355.length + x5.length < 140737488355328 then ((head_Decode.f k (y355 ++ x5)).bind fun bt361 => (if 27 ≤ (x16.length : Int) then ((head_Decode.f k (x16.take 27)).bind fun bt373 => (if x13 = true then (if bt361.2.2.2.2.2.2 = 0 then (if ((bt361.1 == x348000 && (bt361.2.1 == x348001 && (bt361.2.2.1 == x348002))) && (bt361.2.2.2.1 == x348003 && (bt361.2.2.2.2.1 == x348004 && (bt361.2.2.2.2.2.1 == x348005)))) = true then (some (bt373.2.2.2.2.2.2 == 5)) else (none)) else (none)) else (none))) else (none))) else (none))) else (none)))
def keepsakelaw04_HeadBack.f (k : Nat) (a0 : Int) (a1 : Int) (a2 : Int) (a3 : Int) (a4 : Int) (l5 : List Int) : Option (Bool) := (keepsakelaw04_awake.f k).bind fun t344 => (if (l5.length : Int) > 20 then (some t344) else ((geo_Total.f (wrap64 (Int.tmod a0 11)) (wrap64 (Int.tmod a1 65)) (wrap64 (Int.tmod a2 129))).bind fun t346 => ((head_Encode.f k (wrap64 (Int.tmod a0 11)) (wrap64 (Int.tmod a1 65)) (wrap64 (Int.tmod a2 129)) t346 a3 a4).bind fun bt348 => (if bt348.2 = 0 then (keepsakelaw04_HeadBack.j0 k l5 t344 bt348.1 ((bt348.1.length : Int) != 28) (wrap64 (Int.tmod a0 11)) (wrap64 (Int.tmod a1 65)) (wrap64 (Int.tmod a2 129)) t346 a3 a4) else (keepsakelaw04_HeadBack.j0 k l5 t344 bt348.1 true (wrap64 (Int.tmod a0 11)) (wrap64 (Int.tmod a1 65)) (wrap64 (Int.tmod a2 129)) t346 a3 a4)))))
theorem keepsakelaw04_HeadBack.mono_l : ∀ k, (∀ y0 y1 y2 y3 y4 y5 y6 y7 y8 y9, LeO (keepsakelaw04_HeadBack.j0 k y0 y1 y2 y3 y4 y5 y6 y7 y8 y9) (keepsakelaw04_HeadBack.j0 (k + 1) y0 y1 y2 y3 y4 y5 y6 y7 y8 y9))
  | 0 => fun _ _ _ _ _ _ _ _ _ _ r h => by simp [keepsakelaw04_HeadBack.j0] at h
  | k + 1 => by
    have ih0 := keepsakelaw04_HeadBack.mono_l k
    · intro y0 y1 y2 y3 y4 y5 y6 y7 y8 y9
      unfold keepsakelaw04_HeadBack.j0
      repeat' first
      | (with_reducible exact ih0 _ _ _ _ _ _ _ _ _ _)
      | (with_reducible exact head_Decode.mono _ _)
      | (with_reducible exact head_Encode.mono _ _ _ _ _ _ _)
      | (with_reducible exact keepsakelaw04_awake.mono _)
      | (with_reducible exact LeO.refl _)
      | (with_reducible exact LeO.none _)
      | (with_reducible refine LeO.ite ?_ ?_)
      | (with_reducible refine LeO.bind ?_ (fun _ => ?_))
      | exact ih0 _ _ _ _ _ _ _ _ _ _
      | exact head_Decode.mono _ _
      | exact head_Encode.mono _ _ _ _ _ _ _
      | exact keepsakelaw04_awake.mono _
      | exact LeO.none _
      | refine LeO.ite ?_ ?_
      | refine LeO.bind ?_ (fun _ => ?_)
theorem keepsakelaw04_HeadBack.mono : ∀ a0 a1 a2 a3 a4 a5 k, LeO (keepsakelaw04_HeadBack.f k a0 a1 a2 a3 a4 a5) (keepsakelaw04_HeadBack.f (k + 1) a0 a1 a2 a3 a4 a5) := by
  intro a0 a1 a2 a3 a4 a5 k
  have ih0 := keepsakelaw04_HeadBack.mono_l k
  unfold keepsakelaw04_HeadBack.f
  repeat' first
      | (with_reducible exact ih0 _ _ _ _ _ _ _ _ _ _)
      | (with_reducible exact head_Decode.mono _ _)
      | (with_reducible exact head_Encode.mono _ _ _ _ _ _ _)
      | (with_reducible exact keepsakelaw04_awake.mono _)
      | (with_reducible exact LeO.refl _)
      | (with_reducible exact LeO.none _)
      | (with_reducible refine LeO.ite ?_ ?_)
      | (with_reducible refine LeO.bind ?_ (fun _ => ?_))
      | exact ih0 _ _ _ _ _ _ _ _ _ _
      | exact head_Decode.mono _ _
      | exact head_Encode.mono _ _ _ _ _ _ _
      | exact keepsakelaw04_awake.mono _
      | exact LeO.none _
      | refine LeO.ite ?_ ?_
      | refine LeO.bind ?_ (fun _ => ?_)
def keepsakelaw04_HeadBack.T5 : Bool × List (List Nat × List Nat) := (true, [([], []), ([], []), ([1], [1]), ([], []), ([], []), ([0, 2, 3, 4], [0, 2, 3, 4]), ([], []), ([6, 5, 2, 0, 1, 2, 3, 4, 5, 6], [5, 6])])
def keepsakelaw04_HeadBack.B5 : List Nat := [0, 0, 2, 0, 0, 31, 0, 127]
theorem keepsakelaw04_HeadBack.tab5 : rtab .any (opsOf Tryd.f5 5) = keepsakelaw04_HeadBack.T5 := by kernel_rfl
theorem keepsakelaw04_HeadBack.bits5 : waitsOk keepsakelaw04_HeadBack.T5.2 keepsakelaw04_HeadBack.B5 = true := by kernel_rfl
set_option maxHeartbeats 8000000 in
set_option maxRecDepth 100000 in
theorem keepsakelaw04_HeadBack.calls (k : Nat) (a0 : Int) (a1 : Int) (a2 : Int) (a3 : Int) (a4 : Int) (A5 : Option Addr) (c5 : Nat) (l5 : List Int) (r : Bool) (w : World) (hG : Laid w) (hr5 : Kd.C (Kd.int .u8) w A5 l5.length l5) (hc5 : l5.length ≤ c5) (h : keepsakelaw04_HeadBack.f k a0 a1 a2 a3 a4 l5 = some r) :
    Calls Tryd.prog 5 #[.int .u8 a0, .int .u8 a1, .int .u8 a2, .int .u64 a3, .int .u32 a4, .slice A5 l5.length c5] w fun e w' => e = .returned (.bool r) ∧ Below w.heap.size w w' := by
  have HG := Aside0.mk hG
  clear hG
  have hu23 := Tryd.underlying23
  have hu27 := Tryd.underlying27
  have HR5 := Aside0.mk hr5
  have HC5 := Aside0.mk hc5
  clear hr5 hc5
  have HB := Aside0.mk (Below.refl w.heap.size w)
  have H : ((keepsakelaw04_awake.f k).bind fun t344 => (if (l5.length : Int) > 20 then (some t344) else ((geo_Total.f (wrap64 (Int.tmod a0 11)) (wrap64 (Int.tmod a1 65)) (wrap64 (Int.tmod a2 129))).bind fun t346 => ((head_Encode.f k (wrap64 (Int.tmod a0 11)) (wrap64 (Int.tmod a1 65)) (wrap64 (Int.tmod a2 129)) t346 a3 a4).bind fun bt348 => (if bt348.2 = 0 then (keepsakelaw04_HeadBack.j0 k l5 t344 bt348.1 ((bt348.1.length : Int) != 28) (wrap64 (Int.tmod a0 11)) (wrap64 (Int.tmod a1 65)) (wrap64 (Int.tmod a2 129)) t346 a3 a4) else (keepsakelaw04_HeadBack.j0 k l5 t344 bt348.1 true (wrap64 (Int.tmod a0 11)) (wrap64 (Int.tmod a1 65)) (wrap64 (Int.tmod a2 129)) t346 a3 a4)))))) = some r := h
  clear h
  replace H := Option.bind_eq_some_iff.mp H
  obtain ⟨t344, A70, H⟩ := H
  replace H : (if (l5.length : Int) > 20 then (some t344) else ((geo_Total.f (wrap64 (Int.tmod a0 11)) (wrap64 (Int.tmod a1 65)) (wrap64 (Int.tmod a2 129))).bind fun t346 => ((head_Encode.f k (wrap64 (Int.tmod a0 11)) (wrap64 (Int.tmod a1 65)) (wrap64 (Int.tmod a2 129)) t346 a3 a4).bind fun bt348 => (if bt348.2 = 0 then (keepsakelaw04_HeadBack.j0 k l5 t344 bt348.1 ((bt348.1.length : Int) != 28) (wrap64 (Int.tmod a0 11)) (wrap64 (Int.tmod a1 65)) (wrap64 (Int.tmod a2 129)) t346 a3 a4) else (keepsakelaw04_HeadBack.j0 k l5 t344 bt348.1 true (wrap64 (Int.tmod a0 11)) (wrap64 (Int.tmod a1 65)) (wrap64 (Int.tmod a2 129)) t346 a3 a4))))) = some r := H
  have A7 := Aside0.mk A70
  clear A70
  by_cases c8 : (l5.length : Int) > 20
  · rw [if_pos c8] at H
    have c8b0 : decide (20 < (l5.length : Int)) = true := decide_eq_true c8
    have c8b1 : decide (20 < l5.length) = true := decide_eq_true (by omega)
    clear c8
    obtain rfl := Option.some.inj H
    go_enter Tryd.func5, Tryd.ntmps5
    go_wp2_with (first | ((with_reducible refine gate_callee (f := 9) rfl ?_); refine goesL_ (some 22) rfl rfl Tryd.func9 (by kernel_rfl) rfl #[] rfl (by (try simp only [List.map_toArray, List.map_cons, List.map_nil]); first | done | rfl | (simp only [List.length_drop, List.length_take]; rfl)) ?_; (with_reducible refine (keepsakelaw04_awake.calls k  t344 _ ?sideG A7.out).mono ?_); (case sideG => repeat (first | exact Laid.below HG.out HB.out | exact HG.out | (with_reducible refine Laid.alloc ?_ _) | (with_reducible refine Laid.drewN ?_ _) | (with_reducible refine Laid.drew ?_))); rintro e w9 ⟨rfl, hb⟩; refine ⟨_, rfl, ?_⟩; have n0_ := Aside0.mk (below_step (by repeat (first | (with_reducible first | exact HB.out | apply below_alloc | apply pw_below_drewN | apply below_drew1) | exact HB.out)) hb); clear HB; have HB := n0_; clear n0_; (try clear hb); (try clear hb2); (try clear hk); (try clear hi)))
    go_ret
    exact ⟨by first | rfl | (simp [errW_none, errW_some] <;> rfl) | (simp [*, errW_none, errW_some] <;> rfl), by repeat (first | (with_reducible first | exact HB.out | apply below_alloc | apply pw_below_drewN | apply below_drew1) | exact HB.out)⟩
  · rw [if_neg c8] at H
    have c8b0 : decide (20 < (l5.length : Int)) = false := decide_eq_false c8
    have c8b1 : decide (20 < l5.length) = false := decide_eq_false (by omega)
    clear c8
    replace H := Option.bind_eq_some_iff.mp H
    obtain ⟨t346, A100, H⟩ := H
    replace H : ((head_Encode.f k (wrap64 (Int.tmod a0 11)) (wrap64 (Int.tmod a1 65)) (wrap64 (Int.tmod a2 129)) t346 a3 a4).bind fun bt348 => (if bt348.2 = 0 then (keepsakelaw04_HeadBack.j0 k l5 t344 bt348.1 ((bt348.1.length : Int) != 28) (wrap64 (Int.tmod a0 11)) (wrap64 (Int.tmod a1 65)) (wrap64 (Int.tmod a2 129)) t346 a3 a4) else (keepsakelaw04_HeadBack.j0 k l5 t344 bt348.1 true (wrap64 (Int.tmod a0 11)) (wrap64 (Int.tmod a1 65)) (wrap64 (Int.tmod a2 129)) t346 a3 a4))) = some r := H
    have A10 := Aside0.mk A100
    clear A100
    replace H := Option.bind_eq_some_iff.mp H
    obtain ⟨⟨t348, t351⟩, A110, H⟩ := H
    replace H : (if t351 = 0 then (keepsakelaw04_HeadBack.j0 k l5 t344 t348 ((t348.length : Int) != 28) (wrap64 (Int.tmod a0 11)) (wrap64 (Int.tmod a1 65)) (wrap64 (Int.tmod a2 129)) t346 a3 a4) else (keepsakelaw04_HeadBack.j0 k l5 t344 t348 true (wrap64 (Int.tmod a0 11)) (wrap64 (Int.tmod a1 65)) (wrap64 (Int.tmod a2 129)) t346 a3 a4)) = some r := H
    have A11 := Aside0.mk A110
    clear A110
    have HC12 := Aside0.mk H
    clear H
    go_enter Tryd.func5, Tryd.ntmps5
    try go_wp2_with (first | ((with_reducible refine gate_callee (f := 9) rfl ?_); refine goesL_ (some 22) rfl rfl Tryd.func9 (by kernel_rfl) rfl #[] rfl (by (try simp only [List.map_toArray, List.map_cons, List.map_nil]); first | done | rfl | (simp only [List.length_drop, List.length_take]; rfl)) ?_; (with_reducible refine (keepsakelaw04_awake.calls k  t344 _ ?sideG A7.out).mono ?_); (case sideG => repeat (first | exact Laid.below HG.out HB.out | exact HG.out | (with_reducible refine Laid.alloc ?_ _) | (with_reducible refine Laid.drewN ?_ _) | (with_reducible refine Laid.drew ?_))); rintro e w13 ⟨rfl, hb⟩; refine ⟨_, rfl, ?_⟩; have n0_ := Aside0.mk (below_step (by repeat (first | (with_reducible first | exact HB.out | apply below_alloc | apply pw_below_drewN | apply below_drew1) | exact HB.out)) hb); clear HB; have HB := n0_; clear n0_; (try clear hb); (try clear hb2); (try clear hk); (try clear hi)) | ((with_reducible refine gate_dst (N := 14) rfl ?_); (try (refine gate_guard (by rfl) ?_; dsimp only)); refine box_event ?hg (N := 14) ?hd (cs := #[.int .i64 0, .int .i64 0, .int .i64 0]) (t := 23) ?hr ?_; (case hd => rfl); (case hg => rfl); (case hr => first | (go_simp; done) | (go_simp; rfl)); intro gb345 hg w14 hbox hb; have n0_ := Aside0.mk (below_step (by repeat (first | (with_reducible first | exact HB.out | apply below_alloc | apply pw_below_drewN | apply below_drew1) | exact HB.out)) hb); have n1_ := Aside0.mk (hbox); have n2_ := Aside0.mk ((by rw [hg]; exact (below_size (by repeat (first | (with_reducible first | exact HB.out | apply below_alloc | apply pw_below_drewN | apply below_drew1) | exact HB.out))) : w.heap.size ≤ gb345)); have n3_ := Aside0.mk ((by rw [hg]; exact (below_size (by repeat (first | (with_reducible first | exact HB.out | apply below_alloc | apply pw_below_drewN | apply below_drew1) | exact HB.out))) : w.heap.size ≤ gb345)); clear HB; have HB := n0_; have BK345 := n1_; have GW345 := n2_; have GE345 := n3_; clear n0_ n1_ n2_ n3_; clear hb hbox hg; have hcz15_0 : w14.cell? ⟨gb345, 0, none⟩ = some (.int .i64 0) := (blk_cell BK345.out 0).trans rfl; have hcz15_1 : w14.cell? ⟨gb345, 1, none⟩ = some (.int .i64 0) := (blk_cell BK345.out 1).trans rfl; have hcz15_2 : w14.cell? ⟨gb345, 2, none⟩ = some (.int .i64 0) := (blk_cell BK345.out 2).trans rfl; have hfz15_0 := blk_frozen BK345.out 0; have hfz15_1 := blk_frozen BK345.out 1; have hfz15_2 := blk_frozen BK345.out 2))
    have n0_ : Aside0 ((((w14.setCell ⟨gb345, 0, none⟩ (.int .i64 (wrap64 (Int.tmod a0 11)))).setCell ⟨gb345, 1, none⟩ (.int .i64 (wrap64 (Int.tmod a1 65)))).setCell ⟨gb345, 2, none⟩ (.int .i64 (wrap64 (Int.tmod a2 129)))).heap[gb345]? = some (.cells #[.int .i64 (wrap64 (Int.tmod a0 11)), .int .i64 (wrap64 (Int.tmod a1 65)), .int .i64 (wrap64 (Int.tmod a2 129))] 23 (0, 0))) := ⟨by (with_reducible repeat (first | refine blk_drewN ?_ _ | refine blk_drew ?_ | refine blk_alloc ?_ _)); refine blk_put (cs := #[.int .i64 (wrap64 (Int.tmod a0 11)), .int .i64 (wrap64 (Int.tmod a1 65)), .int .i64 0]) ?_ 2 _ rfl; (with_reducible repeat (first | refine blk_drewN ?_ _ | refine blk_drew ?_ | refine blk_alloc ?_ _)); refine blk_put (cs := #[.int .i64 (wrap64 (Int.tmod a0 11)), .int .i64 0, .int .i64 0]) ?_ 1 _ rfl; (with_reducible repeat (first | refine blk_drewN ?_ _ | refine blk_drew ?_ | refine blk_alloc ?_ _)); refine blk_put (cs := #[.int .i64 0, .int .i64 0, .int .i64 0]) ?_ 0 _ rfl; (with_reducible repeat (first | refine blk_drewN ?_ _ | refine blk_drew ?_ | refine blk_alloc ?_ _)); exact BK345.out⟩
    have n1_ : Aside0 (Below w.heap.size w (((w14.setCell ⟨gb345, 0, none⟩ (.int .i64 (wrap64 (Int.tmod a0 11)))).setCell ⟨gb345, 1, none⟩ (.int .i64 (wrap64 (Int.tmod a1 65)))).setCell ⟨gb345, 2, none⟩ (.int .i64 (wrap64 (Int.tmod a2 129))))) := ⟨by repeat (first | (with_reducible first | exact HB.out | apply below_alloc | apply pw_below_drewN | apply below_drew1 | refine below_set ?_ GE345.out) | exact HB.out)⟩
    (try clear BK345)
    (try clear HB)
    generalize (((w14.setCell ⟨gb345, 0, none⟩ (.int .i64 (wrap64 (Int.tmod a0 11)))).setCell ⟨gb345, 1, none⟩ (.int .i64 (wrap64 (Int.tmod a1 65)))).setCell ⟨gb345, 2, none⟩ (.int .i64 (wrap64 (Int.tmod a2 129)))) = w16 at n0_ n1_ ⊢
    have BK345 := n0_
    have HB := n1_
    clear n0_ n1_
    have n0_ := Aside0.mk (blk_drew BK345.out)
    have n1_ := Aside0.mk (below_drew1 HB.out)
    clear BK345
    clear HB
    have BK345 := n0_
    have HB := n1_
    clear n0_ n1_
    refine start_ (n := 8) (S := fun w' => w'.cell? ⟨gb345, 0, none⟩ = some (.int .i64 (wrap64 (Int.tmod a0 11))) ∧ w'.cell? ⟨gb345, 1, none⟩ = some (.int .i64 (wrap64 (Int.tmod a1 65))) ∧ w'.cell? ⟨gb345, 2, none⟩ = some (.int .i64 (wrap64 (Int.tmod a2 129)))) (ds := []) #[false, false, false, false, false, false, false, false] (by kernel_rfl) rfl rfl ⟨(blk_cell BK345.out 0).trans rfl, (blk_cell BK345.out 1).trans rfl, (blk_cell BK345.out 2).trans rfl⟩ (fun hHeld => ?_); refine with_tabW keepsakelaw04_HeadBack.tab5 keepsakelaw04_HeadBack.bits5 (fun HT_ HW_ => ?_)
    generalize w16.drew = w17 at BK345 HB hHeld ⊢
    refine pure_ (i := 3) (N := some 40) (v := ?_) (a' := ?_) #[false, false, false, true, false, false, false, false] rfl rfl (any_of HT_.out (by kernel_rfl)) (fun _ _ _ h => h) (Or.inl ⟨by rfl, ?_⟩) ?_ ?_
    rotate_left
    · intro w'
      go_simp
      with_reducible rfl
    rotate_left
    · simp only [Act.put, List.setIfInBounds_toArray, List.set_cons_zero, List.set_cons_succ, i64_w, i32_w]
      rfl
    refine pure_ (i := 4) (N := some 41) (v := ?_) (a' := ?_) #[false, false, false, true, true, false, false, false] rfl rfl (any_of HT_.out (by kernel_rfl)) (fun _ _ _ h => h) (Or.inl ⟨by rfl, ?_⟩) ?_ ?_
    rotate_left
    · intro w'
      go_simp
      with_reducible rfl
    rotate_left
    · simp only [Act.put, List.setIfInBounds_toArray, List.set_cons_zero, List.set_cons_succ, i64_w, i32_w]
      rfl
    refine take_ (i := 0) (N := some 37) (v := ?_) (a' := ?_) #[true, false, false, true, true, false, false, false] rfl rfl (take_ofW HT_.out HW_.out (by kernel_rfl)) (fun _ _ _ h => h) (Or.inl ⟨by rfl, ?_⟩) hHeld ?_ ?_
    rotate_left
    · rintro w' ⟨s0, s1, s2⟩
      go_simp
      with_reducible rfl
    rotate_left
    · simp only [Act.put, List.setIfInBounds_toArray, List.set_cons_zero, List.set_cons_succ, i64_w, i32_w]
      rfl
    refine take_ (i := 1) (N := some 38) (v := ?_) (a' := ?_) #[true, true, false, true, true, false, false, false] rfl rfl (take_ofW HT_.out HW_.out (by kernel_rfl)) (fun _ _ _ h => h) (Or.inl ⟨by rfl, ?_⟩) hHeld ?_ ?_
    rotate_left
    · rintro w' ⟨s0, s1, s2⟩
      go_simp
      with_reducible rfl
    rotate_left
    · simp only [Act.put, List.setIfInBounds_toArray, List.set_cons_zero, List.set_cons_succ, i64_w, i32_w]
      rfl
    refine join_ (σ := Nat) 1 #[true, true, true, true, true, true, true, false] (fun s_ => [(39, .int .i64 t346), (15, .pointer (some ⟨s_, 0, none⟩)), (42, .agg #[.int .i64 (wrap64 (Int.tmod a0 11)), .int .i64 (wrap64 (Int.tmod a1 65)), .int .i64 (wrap64 (Int.tmod a2 129)), .int .i64 t346, .int .u64 a3, .int .u32 a4])]) (fun s_ w' => (w'.cell? ⟨gb345, 0, none⟩ = some (.int .i64 (wrap64 (Int.tmod a0 11))) ∧ w'.cell? ⟨gb345, 1, none⟩ = some (.int .i64 (wrap64 (Int.tmod a1 65))) ∧ w'.cell? ⟨gb345, 2, none⟩ = some (.int .i64 (wrap64 (Int.tmod a2 129)))) ∧ (w'.heap[gb345]? = some (.cells #[.int .i64 (wrap64 (Int.tmod a0 11)), .int .i64 (wrap64 (Int.tmod a1 65)), .int .i64 (wrap64 (Int.tmod a2 129))] 23 (0, 0))) ∧ (w'.heap[s_]? = some (.cells #[.int .i64 0, .int .i64 0, .int .i64 0, .int .i64 0, .int .u64 0, .int .u32 0] 27 (0, 0))) ∧ (w.heap.size ≤ s_) ∧ (w.heap.size ≤ s_) ∧ (gb345 ≠ s_) ∧ (s_ ≠ gb345) ∧ (Below w.heap.size w w')) ?_ ?_
    rotate_left
    · intro hCont
      refine two_ (i := 2) (j := 6) (Ni := some 39) (Nj := some 15) #[true, true, true, true, true, false, false, false] #[true, true, false, true, true, false, true, false] rfl rfl rfl rfl (two_of HT_.out (by kernel_rfl)) (by decide) (by decide) (fun K hK => ?_) (fun K hK => ?_)
      · skip
        refine goes_ Tryd.func17 (by kernel_rfl) rfl #[.agg #[.int .i64 (wrap64 (Int.tmod a0 11)), .int .i64 (wrap64 (Int.tmod a1 65)), .int .i64 (wrap64 (Int.tmod a2 129))]] (by rfl) rfl rfl (by (try simp only [List.map_toArray, List.map_cons, List.map_nil]); first | done | rfl | (simp only [List.length_drop, List.length_take]; rfl)) ?_
        with_reducible refine (geo_Total.calls (wrap64 (Int.tmod a0 11)) (wrap64 (Int.tmod a1 65)) (wrap64 (Int.tmod a2 129)) t346 _ ?sideG A10.out).mono ?_
        (case sideG => repeat (first | exact Laid.below HG.out HB.out | exact HG.out | (with_reducible refine Laid.alloc ?_ _) | (with_reducible refine Laid.drewN ?_ _) | (with_reducible refine Laid.drew ?_)))
        rintro e w18 ⟨rfl, hb⟩
        refine ⟨_, rfl, ?_⟩
        have n0_ := Aside0.mk (blk_below (g := gb345) (o := .cells #[.int .i64 (wrap64 (Int.tmod a0 11)), .int .i64 (wrap64 (Int.tmod a1 65)), .int .i64 (wrap64 (Int.tmod a2 129))] 23 (0, 0)) (by (with_reducible repeat (first | refine blk_drewN ?_ _ | refine blk_drew ?_ | refine blk_alloc ?_ _)); exact BK345.out) hb)
        have n1_ := Aside0.mk (below_step (by repeat (first | (with_reducible first | exact HB.out | apply below_alloc | apply pw_below_drewN | apply below_drew1 | refine below_set ?_ GE345.out) | exact HB.out)) hb)
        clear BK345
        clear HB
        have BK345 := n0_
        have HB := n1_
        clear n0_ n1_
        (try clear hb)
        (try clear hb2)
        (try clear hk)
        (try clear hi)
        refine hK.out _ _ ⟨(blk_cell BK345.out 0).trans rfl, (blk_cell BK345.out 1).trans rfl, (blk_cell BK345.out 2).trans rfl⟩ (fun hHeld => ?_)
        clear hK K
        refine norm_ (a' := ?_) ?_ ?_
        rotate_left
        · show Act.put _ (some 39) _ = _
          simp only [Act.put, List.setIfInBounds_toArray, List.set_cons_zero, List.set_cons_succ, i64_w, i32_w]
          rfl
        refine pure_ (i := 5) (N := some 42) (v := ?_) (a' := ?_) #[true, true, true, true, true, true, false, false] rfl rfl (any_of HT_.out (by kernel_rfl)) (fun _ _ _ h => h) (Or.inl ⟨by rfl, ?_⟩) ?_ ?_
        rotate_left
        · intro w'
          go_simp
          with_reducible rfl
        rotate_left
        · simp only [Act.put, List.setIfInBounds_toArray, List.set_cons_zero, List.set_cons_succ, i64_w, i32_w]
          rfl
        refine one_ (i := 6) (N := some 15) #[true, true, true, true, true, true, true, false] rfl rfl (one_of HT_.out (by kernel_rfl)) (by decide) (fun K hK => ?_)
        refine box_step ?hg (N := 15) ?hd (cs := #[.int .i64 0, .int .i64 0, .int .i64 0, .int .i64 0, .int .u64 0, .int .u32 0]) (t := 27) ?hr ?_; (case hd => rfl); (case hg => rfl); (case hr => first | (go_simp; done) | (go_simp; rfl))
        intro gb347 hg w19 hbox hb
        have n0_ := Aside0.mk (blk_below (g := gb345) (o := .cells #[.int .i64 (wrap64 (Int.tmod a0 11)), .int .i64 (wrap64 (Int.tmod a1 65)), .int .i64 (wrap64 (Int.tmod a2 129))] 23 (0, 0)) (by (with_reducible repeat (first | refine blk_drewN ?_ _ | refine blk_drew ?_ | refine blk_alloc ?_ _)); exact BK345.out) hb)
        have n1_ := Aside0.mk (below_step (by repeat (first | (with_reducible first | exact HB.out | apply below_alloc | apply pw_below_drewN | apply below_drew1 | refine below_set ?_ GE345.out) | exact HB.out)) hb)
        have n2_ := Aside0.mk (hbox)
        have n3_ := Aside0.mk ((by rw [hg]; exact (below_size (by repeat (first | (with_reducible first | exact HB.out | apply below_alloc | apply pw_below_drewN | apply below_drew1 | refine below_set ?_ GE345.out) | exact HB.out))) : w.heap.size ≤ gb347))
        have n4_ := Aside0.mk ((by rw [hg]; exact (below_size (by repeat (first | (with_reducible first | exact HB.out | apply below_alloc | apply pw_below_drewN | apply below_drew1 | refine below_set ?_ GE345.out) | exact HB.out))) : w.heap.size ≤ gb347))
        have n5_ := Aside0.mk ((by rw [hg]; exact Nat.ne_of_lt (blk_lt (g := gb345) (o := .cells #[.int .i64 (wrap64 (Int.tmod a0 11)), .int .i64 (wrap64 (Int.tmod a1 65)), .int .i64 (wrap64 (Int.tmod a2 129))] 23 (0, 0)) (by (with_reducible repeat (first | refine blk_drewN ?_ _ | refine blk_drew ?_ | refine blk_alloc ?_ _)); exact BK345.out)) : gb345 ≠ gb347))
        have n6_ := Aside0.mk ((by rw [hg]; exact Nat.ne_of_gt (blk_lt (g := gb345) (o := .cells #[.int .i64 (wrap64 (Int.tmod a0 11)), .int .i64 (wrap64 (Int.tmod a1 65)), .int .i64 (wrap64 (Int.tmod a2 129))] 23 (0, 0)) (by (with_reducible repeat (first | refine blk_drewN ?_ _ | refine blk_drew ?_ | refine blk_alloc ?_ _)); exact BK345.out)) : gb347 ≠ gb345))
        clear BK345
        clear HB
        have BK345 := n0_
        have HB := n1_
        have BK347 := n2_
        have GW347 := n3_
        have GE347 := n4_
        have NB345_347 := n5_
        have NB347_345 := n6_
        clear n0_ n1_ n2_ n3_ n4_ n5_ n6_
        clear hb hbox hg
        refine hK.out _ _ ⟨(blk_cell BK345.out 0).trans rfl, (blk_cell BK345.out 1).trans rfl, (blk_cell BK345.out 2).trans rfl⟩ (fun hHeld => ?_)
        clear hK K
        refine norm_ (a' := ?_) ?_ ?_
        rotate_left
        · show Act.put _ (some 15) _ = _
          simp only [Act.put, List.setIfInBounds_toArray, List.set_cons_zero, List.set_cons_succ, i64_w, i32_w]
          rfl
        exact norm_ (by simp only [putAll, Act.put, List.setIfInBounds_toArray, List.set_cons_zero, List.set_cons_succ]) (hCont (gb347) _ ⟨hHeld, (by (with_reducible repeat (first | refine blk_drewN ?_ _ | refine blk_drew ?_ | refine blk_alloc ?_ _)); exact BK345.out), (by (with_reducible repeat (first | refine blk_drewN ?_ _ | refine blk_drew ?_ | refine blk_alloc ?_ _)); exact BK347.out), GW347.out, GE347.out, NB345_347.out, NB347_345.out, (by repeat (first | (with_reducible first | exact HB.out | apply below_alloc | apply pw_below_drewN | apply below_drew1 | refine below_set ?_ GE345.out | refine below_set ?_ GE347.out) | exact HB.out))⟩)
      · skip
        refine box_step ?hg (N := 15) ?hd (cs := #[.int .i64 0, .int .i64 0, .int .i64 0, .int .i64 0, .int .u64 0, .int .u32 0]) (t := 27) ?hr ?_; (case hd => rfl); (case hg => rfl); (case hr => first | (go_simp; done) | (go_simp; rfl))
        intro gb347 hg w18 hbox hb
        have n0_ := Aside0.mk (blk_below (g := gb345) (o := .cells #[.int .i64 (wrap64 (Int.tmod a0 11)), .int .i64 (wrap64 (Int.tmod a1 65)), .int .i64 (wrap64 (Int.tmod a2 129))] 23 (0, 0)) (by (with_reducible repeat (first | refine blk_drewN ?_ _ | refine blk_drew ?_ | refine blk_alloc ?_ _)); exact BK345.out) hb)
        have n1_ := Aside0.mk (below_step (by repeat (first | (with_reducible first | exact HB.out | apply below_alloc | apply pw_below_drewN | apply below_drew1 | refine below_set ?_ GE345.out) | exact HB.out)) hb)
        have n2_ := Aside0.mk (hbox)
        have n3_ := Aside0.mk ((by rw [hg]; exact (below_size (by repeat (first | (with_reducible first | exact HB.out | apply below_alloc | apply pw_below_drewN | apply below_drew1 | refine below_set ?_ GE345.out) | exact HB.out))) : w.heap.size ≤ gb347))
        have n4_ := Aside0.mk ((by rw [hg]; exact (below_size (by repeat (first | (with_reducible first | exact HB.out | apply below_alloc | apply pw_below_drewN | apply below_drew1 | refine below_set ?_ GE345.out) | exact HB.out))) : w.heap.size ≤ gb347))
        have n5_ := Aside0.mk ((by rw [hg]; exact Nat.ne_of_lt (blk_lt (g := gb345) (o := .cells #[.int .i64 (wrap64 (Int.tmod a0 11)), .int .i64 (wrap64 (Int.tmod a1 65)), .int .i64 (wrap64 (Int.tmod a2 129))] 23 (0, 0)) (by (with_reducible repeat (first | refine blk_drewN ?_ _ | refine blk_drew ?_ | refine blk_alloc ?_ _)); exact BK345.out)) : gb345 ≠ gb347))
        have n6_ := Aside0.mk ((by rw [hg]; exact Nat.ne_of_gt (blk_lt (g := gb345) (o := .cells #[.int .i64 (wrap64 (Int.tmod a0 11)), .int .i64 (wrap64 (Int.tmod a1 65)), .int .i64 (wrap64 (Int.tmod a2 129))] 23 (0, 0)) (by (with_reducible repeat (first | refine blk_drewN ?_ _ | refine blk_drew ?_ | refine blk_alloc ?_ _)); exact BK345.out)) : gb347 ≠ gb345))
        clear BK345
        clear HB
        have BK345 := n0_
        have HB := n1_
        have BK347 := n2_
        have GW347 := n3_
        have GE347 := n4_
        have NB345_347 := n5_
        have NB347_345 := n6_
        clear n0_ n1_ n2_ n3_ n4_ n5_ n6_
        clear hb hbox hg
        refine hK.out _ _ ⟨(blk_cell BK345.out 0).trans rfl, (blk_cell BK345.out 1).trans rfl, (blk_cell BK345.out 2).trans rfl⟩ (fun hHeld => ?_)
        clear hK K
        refine norm_ (a' := ?_) ?_ ?_
        rotate_left
        · show Act.put _ (some 15) _ = _
          simp only [Act.put, List.setIfInBounds_toArray, List.set_cons_zero, List.set_cons_succ, i64_w, i32_w]
          rfl
        refine one_ (i := 2) (N := some 39) #[true, true, true, true, true, false, true, false] rfl rfl (one_of HT_.out (by kernel_rfl)) (by decide) (fun K hK => ?_)
        refine goes_ Tryd.func17 (by kernel_rfl) rfl #[.agg #[.int .i64 (wrap64 (Int.tmod a0 11)), .int .i64 (wrap64 (Int.tmod a1 65)), .int .i64 (wrap64 (Int.tmod a2 129))]] (by rfl) rfl rfl (by (try simp only [List.map_toArray, List.map_cons, List.map_nil]); first | done | rfl | (simp only [List.length_drop, List.length_take]; rfl)) ?_
        with_reducible refine (geo_Total.calls (wrap64 (Int.tmod a0 11)) (wrap64 (Int.tmod a1 65)) (wrap64 (Int.tmod a2 129)) t346 _ ?sideG A10.out).mono ?_
        (case sideG => repeat (first | exact Laid.below HG.out HB.out | exact HG.out | (with_reducible refine Laid.alloc ?_ _) | (with_reducible refine Laid.drewN ?_ _) | (with_reducible refine Laid.drew ?_)))
        rintro e w19 ⟨rfl, hb⟩
        refine ⟨_, rfl, ?_⟩
        have n0_ := Aside0.mk (blk_below (g := gb345) (o := .cells #[.int .i64 (wrap64 (Int.tmod a0 11)), .int .i64 (wrap64 (Int.tmod a1 65)), .int .i64 (wrap64 (Int.tmod a2 129))] 23 (0, 0)) (by (with_reducible repeat (first | refine blk_drewN ?_ _ | refine blk_drew ?_ | refine blk_alloc ?_ _)); exact BK345.out) hb)
        have n1_ := Aside0.mk (blk_below (g := gb347) (o := .cells #[.int .i64 0, .int .i64 0, .int .i64 0, .int .i64 0, .int .u64 0, .int .u32 0] 27 (0, 0)) (by (with_reducible repeat (first | refine blk_drewN ?_ _ | refine blk_drew ?_ | refine blk_alloc ?_ _)); exact BK347.out) hb)
        have n2_ := Aside0.mk (below_step (by repeat (first | (with_reducible first | exact HB.out | apply below_alloc | apply pw_below_drewN | apply below_drew1 | refine below_set ?_ GE345.out | refine below_set ?_ GE347.out) | exact HB.out)) hb)
        clear BK345
        clear BK347
        clear HB
        have BK345 := n0_
        have BK347 := n1_
        have HB := n2_
        clear n0_ n1_ n2_
        (try clear hb)
        (try clear hb2)
        (try clear hk)
        (try clear hi)
        refine hK.out _ _ ⟨(blk_cell BK345.out 0).trans rfl, (blk_cell BK345.out 1).trans rfl, (blk_cell BK345.out 2).trans rfl⟩ (fun hHeld => ?_)
        clear hK K
        refine norm_ (a' := ?_) ?_ ?_
        rotate_left
        · show Act.put _ (some 39) _ = _
          simp only [Act.put, List.setIfInBounds_toArray, List.set_cons_zero, List.set_cons_succ, i64_w, i32_w]
          rfl
        refine pure_ (i := 5) (N := some 42) (v := ?_) (a' := ?_) #[true, true, true, true, true, true, true, false] rfl rfl (any_of HT_.out (by kernel_rfl)) (fun _ _ _ h => h) (Or.inl ⟨by rfl, ?_⟩) ?_ ?_
        rotate_left
        · intro w'
          go_simp
          with_reducible rfl
        rotate_left
        · simp only [Act.put, List.setIfInBounds_toArray, List.set_cons_zero, List.set_cons_succ, i64_w, i32_w]
          rfl
        exact norm_ (by simp only [putAll, Act.put, List.setIfInBounds_toArray, List.set_cons_zero, List.set_cons_succ]) (hCont (gb347) _ ⟨hHeld, (by (with_reducible repeat (first | refine blk_drewN ?_ _ | refine blk_drew ?_ | refine blk_alloc ?_ _)); exact BK345.out), (by (with_reducible repeat (first | refine blk_drewN ?_ _ | refine blk_drew ?_ | refine blk_alloc ?_ _)); exact BK347.out), GW347.out, GE347.out, NB345_347.out, NB347_345.out, (by repeat (first | (with_reducible first | exact HB.out | apply below_alloc | apply pw_below_drewN | apply below_drew1 | refine below_set ?_ GE345.out | refine below_set ?_ GE347.out) | exact HB.out))⟩)
    rintro gb347 w20 ⟨hS_, h0_, h1_, h2_, h3_, h4_, h5_, h6_⟩
    have n0_ : Aside0 (w20.heap[gb345]? = some (.cells #[.int .i64 (wrap64 (Int.tmod a0 11)), .int .i64 (wrap64 (Int.tmod a1 65)), .int .i64 (wrap64 (Int.tmod a2 129))] 23 (0, 0))) := ⟨h0_⟩
    have n1_ : Aside0 (w20.heap[gb347]? = some (.cells #[.int .i64 0, .int .i64 0, .int .i64 0, .int .i64 0, .int .u64 0, .int .u32 0] 27 (0, 0))) := ⟨h1_⟩
    have n2_ : Aside0 (w.heap.size ≤ gb347) := ⟨h2_⟩
    have n3_ : Aside0 (w.heap.size ≤ gb347) := ⟨h3_⟩
    have n4_ : Aside0 (gb345 ≠ gb347) := ⟨h4_⟩
    have n5_ : Aside0 (gb347 ≠ gb345) := ⟨h5_⟩
    have n6_ : Aside0 (Below w.heap.size w w20) := ⟨h6_⟩
    clear BK345
    clear HB
    clear h0_ h1_ h2_ h3_ h4_ h5_ h6_
    have BK345 := n0_
    have BK347 := n1_
    have GW347 := n2_
    have GE347 := n3_
    have NB345_347 := n4_
    have NB347_345 := n5_
    have HB := n6_
    clear n0_ n1_ n2_ n3_ n4_ n5_ n6_
    have hHeld : w20.cell? ⟨gb345, 0, none⟩ = some (.int .i64 (wrap64 (Int.tmod a0 11))) ∧ w20.cell? ⟨gb345, 1, none⟩ = some (.int .i64 (wrap64 (Int.tmod a1 65))) ∧ w20.cell? ⟨gb345, 2, none⟩ = some (.int .i64 (wrap64 (Int.tmod a2 129))) := hS_
    refine norm_ (a' := ?_) ?_ ?_
    rotate_left
    · simp only [putAll, Act.put, List.setIfInBounds_toArray, List.set_cons_zero, List.set_cons_succ]
      rfl
    refine one_ (i := 7) (N := none) #[true, true, true, true, true, true, true, true] rfl rfl (one_of HT_.out (by kernel_rfl)) (by decide) (fun K hK => ?_)
    have hs21 : w20.cell? ⟨gb347, 0, none⟩ = some (.int .i64 0) := (blk_cell BK347.out 0).trans rfl
    have hfs21 := blk_frozen BK347.out 0
    have hns21_0 := NB345_347.out
    have hms21_0 := NB347_345.out
    have hs22 : w20.cell? ⟨gb347, 1, none⟩ = some (.int .i64 0) := (blk_cell BK347.out 1).trans rfl
    have hfs22 := blk_frozen BK347.out 1
    have hns22_0 := NB345_347.out
    have hms22_0 := NB347_345.out
    have hs23 : w20.cell? ⟨gb347, 2, none⟩ = some (.int .i64 0) := (blk_cell BK347.out 2).trans rfl
    have hfs23 := blk_frozen BK347.out 2
    have hns23_0 := NB345_347.out
    have hms23_0 := NB347_345.out
    have hs24 : w20.cell? ⟨gb347, 3, none⟩ = some (.int .i64 0) := (blk_cell BK347.out 3).trans rfl
    have hfs24 := blk_frozen BK347.out 3
    have hns24_0 := NB345_347.out
    have hms24_0 := NB347_345.out
    have hs25 : w20.cell? ⟨gb347, 4, none⟩ = some (.int .u64 0) := (blk_cell BK347.out 4).trans rfl
    have hfs25 := blk_frozen BK347.out 4
    have hns25_0 := NB345_347.out
    have hms25_0 := NB347_345.out
    have hs26 : w20.cell? ⟨gb347, 5, none⟩ = some (.int .u32 0) := (blk_cell BK347.out 5).trans rfl
    have hfs26 := blk_frozen BK347.out 5
    have hns26_0 := NB345_347.out
    have hms26_0 := NB347_345.out
    refine skip_ (w1 := ?_) (by rfl) rfl ?_ ?_
    rotate_left
    · go_simp
      rfl
    refine hK.out _ _ ⟨((cell_far (p := ⟨gb347, _, none⟩) NB345_347.out _).trans (((cell_far (p := ⟨gb347, _, none⟩) NB345_347.out _).trans (((cell_far (p := ⟨gb347, _, none⟩) NB345_347.out _).trans (((cell_far (p := ⟨gb347, _, none⟩) NB345_347.out _).trans (((cell_far (p := ⟨gb347, _, none⟩) NB345_347.out _).trans (((cell_far (p := ⟨gb347, _, none⟩) NB345_347.out _).trans (hHeld.1)))))))))))), ((cell_far (p := ⟨gb347, _, none⟩) NB345_347.out _).trans (((cell_far (p := ⟨gb347, _, none⟩) NB345_347.out _).trans (((cell_far (p := ⟨gb347, _, none⟩) NB345_347.out _).trans (((cell_far (p := ⟨gb347, _, none⟩) NB345_347.out _).trans (((cell_far (p := ⟨gb347, _, none⟩) NB345_347.out _).trans (((cell_far (p := ⟨gb347, _, none⟩) NB345_347.out _).trans (hHeld.2.1)))))))))))), ((cell_far (p := ⟨gb347, _, none⟩) NB345_347.out _).trans (((cell_far (p := ⟨gb347, _, none⟩) NB345_347.out _).trans (((cell_far (p := ⟨gb347, _, none⟩) NB345_347.out _).trans (((cell_far (p := ⟨gb347, _, none⟩) NB345_347.out _).trans (((cell_far (p := ⟨gb347, _, none⟩) NB345_347.out _).trans (((cell_far (p := ⟨gb347, _, none⟩) NB345_347.out _).trans (hHeld.2.2))))))))))))⟩ (fun hHeld => ?_)
    clear hK K
    refine done_ (done_of HT_.out (by kernel_rfl)) ?_
    have hnb27 := NB347_345.out
    have hnc27 := NB345_347.out
    have hcz28_0 : w20.cell? ⟨gb347, 0, none⟩ = some (.int .i64 0) := (blk_cell BK347.out 0).trans rfl
    have hcz28_1 : w20.cell? ⟨gb347, 1, none⟩ = some (.int .i64 0) := (blk_cell BK347.out 1).trans rfl
    have hcz28_2 : w20.cell? ⟨gb347, 2, none⟩ = some (.int .i64 0) := (blk_cell BK347.out 2).trans rfl
    have hcz28_3 : w20.cell? ⟨gb347, 3, none⟩ = some (.int .i64 0) := (blk_cell BK347.out 3).trans rfl
    have hcz28_4 : w20.cell? ⟨gb347, 4, none⟩ = some (.int .u64 0) := (blk_cell BK347.out 4).trans rfl
    have hcz28_5 : w20.cell? ⟨gb347, 5, none⟩ = some (.int .u32 0) := (blk_cell BK347.out 5).trans rfl
    have hfz28_0 := blk_frozen BK347.out 0
    have hfz28_1 := blk_frozen BK347.out 1
    have hfz28_2 := blk_frozen BK347.out 2
    have hfz28_3 := blk_frozen BK347.out 3
    have hfz28_4 := blk_frozen BK347.out 4
    have hfz28_5 := blk_frozen BK347.out 5
    go_upto_region 7 with (first | ((with_reducible refine gate_callee (f := 10) rfl ?_); refine goesL_ (some 45) rfl rfl Tryd.func10 (by kernel_rfl) rfl #[.agg #[.int .i64 (wrap64 (Int.tmod a0 11)), .int .i64 (wrap64 (Int.tmod a1 65)), .int .i64 (wrap64 (Int.tmod a2 129)), .int .i64 t346, .int .u64 a3, .int .u32 a4]] rfl (by (try simp only [List.map_toArray, List.map_cons, List.map_nil]); first | done | rfl | (simp only [List.length_drop, List.length_take]; rfl)) ?_; (with_reducible refine (head_Encode.calls k (wrap64 (Int.tmod a0 11)) (wrap64 (Int.tmod a1 65)) (wrap64 (Int.tmod a2 129)) t346 a3 a4 t348 t351 _ ?sideG A11.out).mono ?_); (case sideG => first | exact Laid.below HG.out (by repeat (first | (with_reducible first | exact HB.out | apply below_alloc | apply pw_below_drewN | apply below_drew1 | refine below_set ?_ GE345.out | refine below_set ?_ GE347.out) | exact HB.out)) | repeat (first | exact Laid.below HG.out HB.out | exact HG.out | (with_reducible refine Laid.alloc ?_ _) | (with_reducible refine Laid.drewN ?_ _) | (with_reducible refine Laid.drew ?_))); rintro e w29 ⟨v349, rfl, ho0, hb⟩; refine ⟨_, rfl, ?_⟩; have n0_ := Aside0.mk (Kd.R_lower ho0 (below_size (by repeat (first | (with_reducible first | exact HB.out | apply below_alloc | apply pw_below_drewN | apply below_drew1 | refine below_set ?_ GE345.out | refine below_set ?_ GE347.out) | exact HB.out)))); have n1_ := Aside0.mk (blk_below (g := gb345) (o := .cells #[.int .i64 (wrap64 (Int.tmod a0 11)), .int .i64 (wrap64 (Int.tmod a1 65)), .int .i64 (wrap64 (Int.tmod a2 129))] 23 (0, 0)) (by (with_reducible repeat (first | refine blk_drewN ?_ _ | refine blk_drew ?_ | refine blk_alloc ?_ _)); refine blk_far ?_ NB345_347.out _; (with_reducible repeat (first | refine blk_drewN ?_ _ | refine blk_drew ?_ | refine blk_alloc ?_ _)); refine blk_far ?_ NB345_347.out _; (with_reducible repeat (first | refine blk_drewN ?_ _ | refine blk_drew ?_ | refine blk_alloc ?_ _)); refine blk_far ?_ NB345_347.out _; (with_reducible repeat (first | refine blk_drewN ?_ _ | refine blk_drew ?_ | refine blk_alloc ?_ _)); refine blk_far ?_ NB345_347.out _; (with_reducible repeat (first | refine blk_drewN ?_ _ | refine blk_drew ?_ | refine blk_alloc ?_ _)); refine blk_far ?_ NB345_347.out _; (with_reducible repeat (first | refine blk_drewN ?_ _ | refine blk_drew ?_ | refine blk_alloc ?_ _)); refine blk_far ?_ NB345_347.out _; (with_reducible repeat (first | refine blk_drewN ?_ _ | refine blk_drew ?_ | refine blk_alloc ?_ _)); exact BK345.out) hb); have n2_ := Aside0.mk (blk_below (g := gb347) (o := .cells #[.int .i64 (wrap64 (Int.tmod a0 11)), .int .i64 (wrap64 (Int.tmod a1 65)), .int .i64 (wrap64 (Int.tmod a2 129)), .int .i64 t346, .int .u64 a3, .int .u32 a4] 27 (0, 0)) (by (with_reducible repeat (first | refine blk_drewN ?_ _ | refine blk_drew ?_ | refine blk_alloc ?_ _)); refine blk_put (cs := #[.int .i64 (wrap64 (Int.tmod a0 11)), .int .i64 (wrap64 (Int.tmod a1 65)), .int .i64 (wrap64 (Int.tmod a2 129)), .int .i64 t346, .int .u64 a3, .int .u32 0]) ?_ 5 _ rfl; (with_reducible repeat (first | refine blk_drewN ?_ _ | refine blk_drew ?_ | refine blk_alloc ?_ _)); refine blk_put (cs := #[.int .i64 (wrap64 (Int.tmod a0 11)), .int .i64 (wrap64 (Int.tmod a1 65)), .int .i64 (wrap64 (Int.tmod a2 129)), .int .i64 t346, .int .u64 0, .int .u32 0]) ?_ 4 _ rfl; (with_reducible repeat (first | refine blk_drewN ?_ _ | refine blk_drew ?_ | refine blk_alloc ?_ _)); refine blk_put (cs := #[.int .i64 (wrap64 (Int.tmod a0 11)), .int .i64 (wrap64 (Int.tmod a1 65)), .int .i64 (wrap64 (Int.tmod a2 129)), .int .i64 0, .int .u64 0, .int .u32 0]) ?_ 3 _ rfl; (with_reducible repeat (first | refine blk_drewN ?_ _ | refine blk_drew ?_ | refine blk_alloc ?_ _)); refine blk_put (cs := #[.int .i64 (wrap64 (Int.tmod a0 11)), .int .i64 (wrap64 (Int.tmod a1 65)), .int .i64 0, .int .i64 0, .int .u64 0, .int .u32 0]) ?_ 2 _ rfl; (with_reducible repeat (first | refine blk_drewN ?_ _ | refine blk_drew ?_ | refine blk_alloc ?_ _)); refine blk_put (cs := #[.int .i64 (wrap64 (Int.tmod a0 11)), .int .i64 0, .int .i64 0, .int .i64 0, .int .u64 0, .int .u32 0]) ?_ 1 _ rfl; (with_reducible repeat (first | refine blk_drewN ?_ _ | refine blk_drew ?_ | refine blk_alloc ?_ _)); refine blk_put (cs := #[.int .i64 0, .int .i64 0, .int .i64 0, .int .i64 0, .int .u64 0, .int .u32 0]) ?_ 0 _ rfl; (with_reducible repeat (first | refine blk_drewN ?_ _ | refine blk_drew ?_ | refine blk_alloc ?_ _)); exact BK347.out) hb); have n3_ := Aside0.mk (below_step (by repeat (first | (with_reducible first | exact HB.out | apply below_alloc | apply pw_below_drewN | apply below_drew1 | refine below_set ?_ GE345.out | refine below_set ?_ GE347.out) | exact HB.out)) hb); clear BK345; clear BK347; clear HB; have HO350 := n0_; have BK345 := n1_; have BK347 := n2_; have HB := n3_; clear n0_ n1_ n2_ n3_; (try clear hb); (try clear hb2); (try clear hk); (try clear hi); (try clear ho0)))
    (try simp only [Act.put, List.setIfInBounds_toArray, List.set_cons_zero, List.set_cons_succ])
    go_cut [54] (fun v54 wc => ∃ (kq : Nat) (x54_11 : Bool), v54 = .bool x54_11 ∧ Aside0 (keepsakelaw04_HeadBack.j0 kq l5 t344 t348 x54_11 (wrap64 (Int.tmod a0 11)) (wrap64 (Int.tmod a1 65)) (wrap64 (Int.tmod a2 129)) t346 a3 a4 = some r) ∧ Aside0 (kq ≤ k) ∧ Aside0 (Kd.R (Kd.int .u8) 5 wc w.heap.size (fun _ => True) v349 t348) ∧ Aside0 (wc.heap[gb345]? = some (.cells #[.int .i64 (wrap64 (Int.tmod a0 11)), .int .i64 (wrap64 (Int.tmod a1 65)), .int .i64 (wrap64 (Int.tmod a2 129))] 23 (0, 0))) ∧ Aside0 (wc.heap[gb347]? = some (.cells #[.int .i64 (wrap64 (Int.tmod a0 11)), .int .i64 (wrap64 (Int.tmod a1 65)), .int .i64 (wrap64 (Int.tmod a2 129)), .int .i64 t346, .int .u64 a3, .int .u32 a4] 27 (0, 0))) ∧ Aside0 (Below w.heap.size w wc))
    case first =>
      have H := HC12.out
      clear HC12
      by_cases c30 : t351 = 0
      · rw [if_pos c30] at H
        have c30b0 : (t351 == 0) = true := beq_iff_eq.mpr c30
        have c30b1 : (t351 != 0) = false := bne_eq_false_iff_eq.mpr c30
        clear c30
        (first | rw [c30b0] | (simp only [i64_w, i32_w]; rw [c30b0]) | skip)
        have H' := Aside0.mk H
        clear H
        obtain ⟨Ao31, co31, eo31⟩ := Kd.R_slice HO350.out
        subst eo31
        go_wp2
        go_meet
        case rel => exact ⟨_, (((t348.length : Int) != 28)), (by first | rfl | (simp; done) | (simp [*]; done) | (simp; omega)), H', ⟨by first | omega | exact Nat.le_refl _⟩, ⟨by (with_reducible repeat (first | apply Kd.R_alloc | apply Kd.R_drewN | apply Kd.R_drew)); exact HO350.out⟩, ⟨by (with_reducible repeat (first | refine blk_drewN ?_ _ | refine blk_drew ?_ | refine blk_alloc ?_ _)); exact BK345.out⟩, ⟨by (with_reducible repeat (first | refine blk_drewN ?_ _ | refine blk_drew ?_ | refine blk_alloc ?_ _)); exact BK347.out⟩, ⟨by repeat (first | (with_reducible first | exact HB.out | apply below_alloc | apply pw_below_drewN | apply below_drew1 | refine below_set ?_ GE345.out | refine below_set ?_ GE347.out) | exact HB.out)⟩⟩
      · rw [if_neg c30] at H
        have c30b0 : (t351 == 0) = false := beq_eq_false_iff_ne.mpr c30
        have c30b1 : (t351 != 0) = true := bne_iff_ne.mpr c30
        (first | rw [c30b0] | (simp only [i64_w, i32_w]; rw [c30b0]) | skip)
        have H' := Aside0.mk H
        clear H
        go_wp2
        go_meet
        case rel => exact ⟨_, (true), (by first | rfl | (simp; done) | (simp [*]; done) | (simp; omega)), H', ⟨by first | omega | exact Nat.le_refl _⟩, ⟨by (with_reducible repeat (first | apply Kd.R_alloc | apply Kd.R_drewN | apply Kd.R_drew)); exact HO350.out⟩, ⟨by (with_reducible repeat (first | refine blk_drewN ?_ _ | refine blk_drew ?_ | refine blk_alloc ?_ _)); exact BK345.out⟩, ⟨by (with_reducible repeat (first | refine blk_drewN ?_ _ | refine blk_drew ?_ | refine blk_alloc ?_ _)); exact BK347.out⟩, ⟨by repeat (first | (with_reducible first | exact HB.out | apply below_alloc | apply pw_below_drewN | apply below_drew1 | refine below_set ?_ GE345.out | refine below_set ?_ GE347.out) | exact HB.out)⟩⟩
    case rest =>
      clear HC12
      try clear c1
      try clear c2
      try clear p2
      try clear c3
      try clear c5
      try clear p6
      try clear c8
      try clear c8b0
      try clear c8b1
      try clear c9
      try clear c10
      try clear c17
      try clear c27
      try clear c30
      try clear c30b0
      try clear c30b1
      try clear hcz15_0
      try clear hcz15_1
      try clear hcz15_2
      try clear hcz28_0
      try clear hcz28_1
      try clear hcz28_2
      try clear hcz28_3
      try clear hcz28_4
      try clear hcz28_5
      try clear hfz15_0
      try clear hfz15_1
      try clear hfz15_2
      try clear hfz28_0
      try clear hfz28_1
      try clear hfz28_2
      try clear hfz28_3
      try clear hfz28_4
      try clear hfz28_5
      obtain ⟨kq, x54_11, rfl, HA, HJ11, HO_16, BK345, BK347, HB⟩ := hcut
      cases kq with
      | zero => exact absurd HA.out (by simp [keepsakelaw04_HeadBack.j0])
      | succ kj11 =>
        have H := HA.out
        clear HA
        simp only [keepsakelaw04_HeadBack.j0] at H
        by_cases c32 : x54_11 = true
        · subst c32
          have H1 : (none) = some r := by rw [if_pos rfl] at H; exact H
          clear H
          have H := H1
          clear H1
          exact absurd H (by simp)
        · replace c32 := Bool.eq_false_iff.mpr c32
          subst c32
          have H1 : ((some (([] : List Int) : List Int)).bind fun y352 => (if y352.length + t348.length < 140737488355328 then ((some (y352 ++ t348 : List Int)).bind fun y355 => (if y355.length + l5.length < 140737488355328 then ((head_Decode.f kj11 (y355 ++ l5)).bind fun bt361 => (if 27 ≤ (t348.length : Int) then ((head_Decode.f kj11 (t348.take 27)).bind fun bt373 => (if t344 = true then (if bt361.2.2.2.2.2.2 = 0 then (if ((bt361.1 == (wrap64 (Int.tmod a0 11)) && (bt361.2.1 == (wrap64 (Int.tmod a1 65)) && (bt361.2.2.1 == (wrap64 (Int.tmod a2 129))))) && (bt361.2.2.2.1 == t346 && (bt361.2.2.2.2.1 == a3 && (bt361.2.2.2.2.2.1 == a4)))) = true then (some (bt373.2.2.2.2.2.2 == 5)) else (none)) else (none)) else (none))) else (none))) else (none))) else (none))) = some r := by rw [if_neg (show ¬ (false = true) by decide)] at H; exact H
          clear H
          have H := H1
          clear H1
          obtain ⟨y352, hy352⟩ : ∃ y_ : List Int, y_ = (([] : List Int)) := ⟨_, rfl⟩
          replace H : (if y352.length + t348.length < 140737488355328 then ((some (y352 ++ t348 : List Int)).bind fun y355 => (if y355.length + l5.length < 140737488355328 then ((head_Decode.f kj11 (y355 ++ l5)).bind fun bt361 => (if 27 ≤ (t348.length : Int) then ((head_Decode.f kj11 (t348.take 27)).bind fun bt373 => (if t344 = true then (if bt361.2.2.2.2.2.2 = 0 then (if ((bt361.1 == (wrap64 (Int.tmod a0 11)) && (bt361.2.1 == (wrap64 (Int.tmod a1 65)) && (bt361.2.2.1 == (wrap64 (Int.tmod a2 129))))) && (bt361.2.2.2.1 == t346 && (bt361.2.2.2.2.1 == a3 && (bt361.2.2.2.2.2.1 == a4)))) = true then (some (bt373.2.2.2.2.2.2 == 5)) else (none)) else (none)) else (none))) else (none))) else (none))) else (none)) = some r := by first | (rw [hy352]; with_reducible exact H) | (have H2_ := (Option.bind_some _ _).symm.trans H; rw [hy352]; with_reducible exact H2_) | (have H2_ := (Option.bind_some _ _).symm.trans H; with_reducible exact H2_) | with_reducible exact H | (rw [hy352]; exact H) | exact H
          have Ny352 := Aside0.mk hy352
          clear hy352
          by_cases c33 : y352.length + t348.length < 140737488355328
          · rw [if_pos c33] at H
            have LMc33 := Aside0.mk c33
            clear c33
            obtain ⟨y355, hy355⟩ : ∃ y_ : List Int, y_ = (y352 ++ t348) := ⟨_, rfl⟩
            replace H : (if y355.length + l5.length < 140737488355328 then ((head_Decode.f kj11 (y355 ++ l5)).bind fun bt361 => (if 27 ≤ (t348.length : Int) then ((head_Decode.f kj11 (t348.take 27)).bind fun bt373 => (if t344 = true then (if bt361.2.2.2.2.2.2 = 0 then (if ((bt361.1 == (wrap64 (Int.tmod a0 11)) && (bt361.2.1 == (wrap64 (Int.tmod a1 65)) && (bt361.2.2.1 == (wrap64 (Int.tmod a2 129))))) && (bt361.2.2.2.1 == t346 && (bt361.2.2.2.2.1 == a3 && (bt361.2.2.2.2.2.1 == a4)))) = true then (some (bt373.2.2.2.2.2.2 == 5)) else (none)) else (none)) else (none))) else (none))) else (none)) = some r := by first | (rw [hy355]; with_reducible exact H) | (have H2_ := (Option.bind_some _ _).symm.trans H; rw [hy355]; with_reducible exact H2_) | (have H2_ := (Option.bind_some _ _).symm.trans H; with_reducible exact H2_) | with_reducible exact H | (rw [hy355]; exact H) | exact H
            have Ny355 := Aside0.mk hy355
            clear hy355
            by_cases c34 : y355.length + l5.length < 140737488355328
            · rw [if_pos c34] at H
              have LMc34 := Aside0.mk c34
              clear c34
              obtain ⟨y358, hy358⟩ : ∃ y_ : List Int, y_ = (y355 ++ l5) := ⟨_, rfl⟩
              replace H : ((head_Decode.f kj11 y358).bind fun bt361 => (if 27 ≤ (t348.length : Int) then ((head_Decode.f kj11 (t348.take 27)).bind fun bt373 => (if t344 = true then (if bt361.2.2.2.2.2.2 = 0 then (if ((bt361.1 == (wrap64 (Int.tmod a0 11)) && (bt361.2.1 == (wrap64 (Int.tmod a1 65)) && (bt361.2.2.1 == (wrap64 (Int.tmod a2 129))))) && (bt361.2.2.2.1 == t346 && (bt361.2.2.2.2.1 == a3 && (bt361.2.2.2.2.2.1 == a4)))) = true then (some (bt373.2.2.2.2.2.2 == 5)) else (none)) else (none)) else (none))) else (none))) = some r := by first | (rw [hy358]; with_reducible exact H) | (have H2_ := (Option.bind_some _ _).symm.trans H; rw [hy358]; with_reducible exact H2_) | (have H2_ := (Option.bind_some _ _).symm.trans H; with_reducible exact H2_) | with_reducible exact H | (rw [hy358]; exact H) | exact H
              have Ny358 := Aside0.mk hy358
              clear hy358
              replace H := Option.bind_eq_some_iff.mp H
              obtain ⟨⟨t361, t362, t363, t364, t365, t366, t367⟩, A350, H⟩ := H
              replace H : (if 27 ≤ (t348.length : Int) then ((head_Decode.f kj11 (t348.take 27)).bind fun bt373 => (if t344 = true then (if t367 = 0 then (if ((t361 == (wrap64 (Int.tmod a0 11)) && (t362 == (wrap64 (Int.tmod a1 65)) && (t363 == (wrap64 (Int.tmod a2 129))))) && (t364 == t346 && (t365 == a3 && (t366 == a4)))) = true then (some (bt373.2.2.2.2.2.2 == 5)) else (none)) else (none)) else (none))) else (none)) = some r := H
              have A35 := Aside0.mk A350
              clear A350
              by_cases c36 : 27 ≤ (t348.length : Int)
              · rw [if_pos c36] at H
                have c36b0 := eq_true c36
                have c36b1 : decide (27 ≤ (t348.length : Int)) = true := decide_eq_true c36
                clear c36
                obtain ⟨y369, hy369⟩ : ∃ y_ : List Int, y_ = (t348.take 27) := ⟨_, rfl⟩
                replace H : ((head_Decode.f kj11 y369).bind fun bt373 => (if t344 = true then (if t367 = 0 then (if ((t361 == (wrap64 (Int.tmod a0 11)) && (t362 == (wrap64 (Int.tmod a1 65)) && (t363 == (wrap64 (Int.tmod a2 129))))) && (t364 == t346 && (t365 == a3 && (t366 == a4)))) = true then (some (bt373.2.2.2.2.2.2 == 5)) else (none)) else (none)) else (none))) = some r := by first | (rw [hy369]; with_reducible exact H) | (have H2_ := (Option.bind_some _ _).symm.trans H; rw [hy369]; with_reducible exact H2_) | (have H2_ := (Option.bind_some _ _).symm.trans H; with_reducible exact H2_) | with_reducible exact H | (rw [hy369]; exact H) | exact H
                have Ny369 := Aside0.mk hy369
                clear hy369
                replace H := Option.bind_eq_some_iff.mp H
                obtain ⟨⟨t373, t374, t375, t376, t377, t378, t379⟩, A370, H⟩ := H
                replace H : (if t344 = true then (if t367 = 0 then (if ((t361 == (wrap64 (Int.tmod a0 11)) && (t362 == (wrap64 (Int.tmod a1 65)) && (t363 == (wrap64 (Int.tmod a2 129))))) && (t364 == t346 && (t365 == a3 && (t366 == a4)))) = true then (some (t379 == 5)) else (none)) else (none)) else (none)) = some r := H
                have A37 := Aside0.mk A370
                clear A370
                by_cases c38 : t344 = true
                · subst c38
                  have H1 : (if t367 = 0 then (if ((t361 == (wrap64 (Int.tmod a0 11)) && (t362 == (wrap64 (Int.tmod a1 65)) && (t363 == (wrap64 (Int.tmod a2 129))))) && (t364 == t346 && (t365 == a3 && (t366 == a4)))) = true then (some (t379 == 5)) else (none)) else (none)) = some r := by rw [if_pos rfl] at H; exact H
                  clear H
                  have H := H1
                  clear H1
                  by_cases c39 : t367 = 0
                  · rw [if_pos c39] at H
                    have c39b0 : (t367 == 0) = true := beq_iff_eq.mpr c39
                    have c39b1 : (t367 != 0) = false := bne_eq_false_iff_eq.mpr c39
                    clear c39
                    by_cases c40 : ((t361 == (wrap64 (Int.tmod a0 11)) && (t362 == (wrap64 (Int.tmod a1 65)) && (t363 == (wrap64 (Int.tmod a2 129))))) && (t364 == t346 && (t365 == a3 && (t366 == a4)))) = true
                    · rw [if_pos c40] at H
                      have c40b0 : ((t361 == (wrap64 (Int.tmod a0 11)) && (t362 == (wrap64 (Int.tmod a1 65)) && (t363 == (wrap64 (Int.tmod a2 129))))) && (t364 == t346 && (t365 == a3 && (t366 == a4)))) = true := c40
                      clear c40
                      obtain rfl := Option.some.inj H
                      go_wp2_with (first | ((with_reducible refine gate_dst (N := 56) rfl ?_); (try (refine gate_guard (by rfl) ?_; dsimp only)); refine Kd.R_lit (Kd.int .u8) _ 5 ?hg (N := 56) ?hd (xs := ([] : List Int)) (inner := []) (ok := fun _ => True) (okp := fun _ => True) ?hr ?hp (fun _ hk => hk) trivial (Below.refl _ _) (Nat.le_refl _) (by simp) ?_; (case hd => rfl); (case hg => rfl); (case hr => first | (go_simp; done) | (go_simp; rfl)); (case hp => exact (Reps.none _ _)); intro v353 w41 ho42 hb hg_ hnew_; clear hg_ hnew_; (first | rw [← Ny352.out] at ho42 | (simp only [Int.reduceToNat] at ho42; rw [← Ny352.out] at ho42)); have n0_ := Aside0.mk (Kd.R_elder' (by (with_reducible repeat (first | apply Kd.R_alloc | apply Kd.R_drewN | apply Kd.R_drew)); exact HO_16.out) (Kd.R_base ho42) hb); have n1_ := Aside0.mk (Kd.R_lower (Kd.R_new' ho42 (Kd.R_lt (by (with_reducible repeat (first | apply Kd.R_alloc | apply Kd.R_drewN | apply Kd.R_drew)); exact HO_16.out))) (below_size (by repeat (first | (with_reducible first | exact HB.out | apply below_alloc | apply pw_below_drewN | apply below_drew1 | refine below_set ?_ GE345.out | refine below_set ?_ GE347.out) | exact HB.out)))); have n2_ := Aside0.mk (blk_below (g := gb345) (o := .cells #[.int .i64 (wrap64 (Int.tmod a0 11)), .int .i64 (wrap64 (Int.tmod a1 65)), .int .i64 (wrap64 (Int.tmod a2 129))] 23 (0, 0)) (by (with_reducible repeat (first | refine blk_drewN ?_ _ | refine blk_drew ?_ | refine blk_alloc ?_ _)); exact BK345.out) hb); have n3_ := Aside0.mk (blk_below (g := gb347) (o := .cells #[.int .i64 (wrap64 (Int.tmod a0 11)), .int .i64 (wrap64 (Int.tmod a1 65)), .int .i64 (wrap64 (Int.tmod a2 129)), .int .i64 t346, .int .u64 a3, .int .u32 a4] 27 (0, 0)) (by (with_reducible repeat (first | refine blk_drewN ?_ _ | refine blk_drew ?_ | refine blk_alloc ?_ _)); exact BK347.out) hb); have n4_ := Aside0.mk (below_step (by repeat (first | (with_reducible first | exact HB.out | apply below_alloc | apply pw_below_drewN | apply below_drew1 | refine below_set ?_ GE345.out | refine below_set ?_ GE347.out) | exact HB.out)) hb); clear HO_16; clear BK345; clear BK347; clear HB; have HO_16 := n0_; have HO354 := n1_; have BK345 := n2_; have BK347 := n3_; have HB := n4_; clear n0_ n1_ n2_ n3_ n4_; clear hb ho42; obtain ⟨Ao44, co44, eo44⟩ := Kd.R_slice HO_16.out; subst eo44) | ((with_reducible refine gate_builtin (b := .append) (xs := #[.tmp 56, .tmp 57]) rfl ?_); (try (refine gate_guard (by rfl) ?_; dsimp only)); at_builtin; refine Kd.R_append_rows (Kd.int .u8) (w0 := w) w.heap.size rfl (.tmp 56) (.tmp 57) 29 5 (.int .u8 0) 1 rfl Tryd.underlying29 info5 rfl (by decide) (by omega) v353 y352 t348 _ _ _ (fun k_ => some k_ ≠ (.slice Ao44 t348.length co44 : Value).ownBlock) (fun _ => False) rfl rfl ?aO ?aR (fun _ _ h => h) (fun _ h => h.elim) ?aF ?aB ?aS ?aL ?_; (case aR => repeat (first | exact (Kd.R_reads' HO_16.out).2.2 | (with_reducible refine Kd.C_alloc ?_ _) | (with_reducible refine Kd.C_drewN ?_ _) | (with_reducible refine Kd.C_drew ?_))); (case aB => exact (by repeat (first | (with_reducible first | exact HB.out | apply below_alloc | apply pw_below_drewN | apply below_drew1 | refine below_set ?_ GE345.out | refine below_set ?_ GE347.out) | exact HB.out))); (case aF => exact (fun k_ hk => Kd.fresh' (Kd.R_lt (by (with_reducible repeat (first | apply Kd.R_alloc | apply Kd.R_drewN | apply Kd.R_drew)); exact HO_16.out)) k_ hk)); (case aO => exact (by (with_reducible repeat (first | apply Kd.R_alloc | apply Kd.R_drewN | apply Kd.R_drew)); exact Kd.R_mono HO354.out (fun _ hk => hk.2))); (case aS => exact (below_size (by repeat (first | (with_reducible first | exact HB.out | apply below_alloc | apply pw_below_drewN | apply below_drew1 | refine below_set ?_ GE345.out | refine below_set ?_ GE347.out) | exact HB.out)))); (case aL => have := LMc33.out; omega); intro v356 w43 ho hb hg hat; (first | rw [← Ny355.out] at ho | (simp only [Int.reduceToNat] at ho; rw [← Ny355.out] at ho)); have n0_ := Aside0.mk (Kd.R_after (ok := (fun _ => True)) (by (with_reducible repeat (first | apply Kd.R_alloc | apply Kd.R_drewN | apply Kd.R_drew)); exact HO_16.out) hg hat); have n1_ := Aside0.mk (blk_grown (g := gb345) (o := .cells #[.int .i64 (wrap64 (Int.tmod a0 11)), .int .i64 (wrap64 (Int.tmod a1 65)), .int .i64 (wrap64 (Int.tmod a2 129))] 23 (0, 0)) (by (with_reducible repeat (first | refine blk_drewN ?_ _ | refine blk_drew ?_ | refine blk_alloc ?_ _)); exact BK345.out) hg (Kd.R_ne HO354.out BK345.out (by decide))); have n2_ := Aside0.mk (blk_grown (g := gb347) (o := .cells #[.int .i64 (wrap64 (Int.tmod a0 11)), .int .i64 (wrap64 (Int.tmod a1 65)), .int .i64 (wrap64 (Int.tmod a2 129)), .int .i64 t346, .int .u64 a3, .int .u32 a4] 27 (0, 0)) (by (with_reducible repeat (first | refine blk_drewN ?_ _ | refine blk_drew ?_ | refine blk_alloc ?_ _)); exact BK347.out) hg (Kd.R_ne HO354.out BK347.out (by decide))); have n3_ := Aside0.mk (hb); have n4_ := Aside0.mk (ho); clear HO_16; clear BK345; clear BK347; clear HB; clear HO354; have HO_16 := n0_; have BK345 := n1_; have BK347 := n2_; have HB := n3_; have HO357 := n4_; clear n0_ n1_ n2_ n3_ n4_; clear ho hb hg hat) | ((with_reducible refine gate_builtin (b := .append) (xs := #[.tmp 58, .tmp 59]) rfl ?_); (try (refine gate_guard (by rfl) ?_; dsimp only)); at_builtin; refine Kd.R_append_rows (Kd.int .u8) (w0 := w) w.heap.size rfl (.tmp 58) (.tmp 59) 29 5 (.int .u8 0) 1 rfl Tryd.underlying29 info5 rfl (by decide) (by omega) v356 y355 l5 _ _ _ (fun k_ => some k_ ≠ (.slice Ao44 t348.length co44 : Value).ownBlock) (fun _ => False) rfl rfl ?aO ?aR (fun _ _ h => h) (fun _ h => h.elim) ?aF ?aB ?aS ?aL ?_; (case aR => repeat (first | exact (Kd.C_below HR5.out HB.out) | (with_reducible refine Kd.C_alloc ?_ _) | (with_reducible refine Kd.C_drewN ?_ _) | (with_reducible refine Kd.C_drew ?_))); (case aB => exact (by repeat (first | (with_reducible first | exact HB.out | apply below_alloc | apply pw_below_drewN | apply below_drew1 | refine below_set ?_ GE345.out | refine below_set ?_ GE347.out) | exact HB.out))); (case aF => exact (fun k_ hk => Kd.fresh' (Kd.R_lt (by (with_reducible repeat (first | apply Kd.R_alloc | apply Kd.R_drewN | apply Kd.R_drew)); exact HO_16.out)) k_ hk)); (case aO => exact (by (with_reducible repeat (first | apply Kd.R_alloc | apply Kd.R_drewN | apply Kd.R_drew)); exact HO357.out)); (case aS => exact (below_size (by repeat (first | (with_reducible first | exact HB.out | apply below_alloc | apply pw_below_drewN | apply below_drew1 | refine below_set ?_ GE345.out | refine below_set ?_ GE347.out) | exact HB.out)))); (case aL => have := LMc34.out; omega); intro v359 w45 ho hb hg hat; (first | rw [← Ny358.out] at ho | (simp only [Int.reduceToNat] at ho; rw [← Ny358.out] at ho)); have n0_ := Aside0.mk (Kd.R_after (ok := (fun _ => True)) (by (with_reducible repeat (first | apply Kd.R_alloc | apply Kd.R_drewN | apply Kd.R_drew)); exact HO_16.out) hg hat); have n1_ := Aside0.mk (blk_grown (g := gb345) (o := .cells #[.int .i64 (wrap64 (Int.tmod a0 11)), .int .i64 (wrap64 (Int.tmod a1 65)), .int .i64 (wrap64 (Int.tmod a2 129))] 23 (0, 0)) (by (with_reducible repeat (first | refine blk_drewN ?_ _ | refine blk_drew ?_ | refine blk_alloc ?_ _)); exact BK345.out) hg (Kd.R_ne HO357.out BK345.out (by decide))); have n2_ := Aside0.mk (blk_grown (g := gb347) (o := .cells #[.int .i64 (wrap64 (Int.tmod a0 11)), .int .i64 (wrap64 (Int.tmod a1 65)), .int .i64 (wrap64 (Int.tmod a2 129)), .int .i64 t346, .int .u64 a3, .int .u32 a4] 27 (0, 0)) (by (with_reducible repeat (first | refine blk_drewN ?_ _ | refine blk_drew ?_ | refine blk_alloc ?_ _)); exact BK347.out) hg (Kd.R_ne HO357.out BK347.out (by decide))); have n3_ := Aside0.mk (hb); have n4_ := Aside0.mk (ho); clear HO_16; clear BK345; clear BK347; clear HB; clear HO357; have HO_16 := n0_; have BK345 := n1_; have BK347 := n2_; have HB := n3_; have HO360 := n4_; clear n0_ n1_ n2_ n3_ n4_; clear ho hb hg hat; obtain ⟨Ao46, co46, eo46⟩ := Kd.R_slice HO360.out; subst eo46) | ((with_reducible refine gate_callee (f := 13) rfl ?_); refine goesL_ (some 61) rfl rfl Tryd.func13 (by kernel_rfl) rfl #[.slice Ao46 y358.length co46] rfl (by (try simp only [List.map_toArray, List.map_cons, List.map_nil]); first | done | rfl | (simp only [List.length_drop, List.length_take]; rfl)) ?_; (with_reducible refine (head_Decode.calls kj11 _ _ y358 t361 t362 t363 t364 t365 t366 t367 _ ?sideG ?side1 ?side2 A35.out).mono ?_); (case sideG => first | exact Laid.below HG.out (by repeat (first | (with_reducible first | exact HB.out | apply below_alloc | apply pw_below_drewN | apply below_drew1 | refine below_set ?_ GE345.out | refine below_set ?_ GE347.out) | exact HB.out)) | repeat (first | exact Laid.below HG.out HB.out | exact HG.out | (with_reducible refine Laid.alloc ?_ _) | (with_reducible refine Laid.drewN ?_ _) | (with_reducible refine Laid.drew ?_))); (case side1 => repeat (first | exact (Kd.R_reads' HO360.out).2.2 | (with_reducible refine Kd.C_alloc ?_ _) | (with_reducible refine Kd.C_drewN ?_ _) | (with_reducible refine Kd.C_drew ?_))); (case side2 => exact (Kd.R_reads' HO360.out).2.1); rintro e w47 ⟨rfl, hb⟩; refine ⟨_, rfl, ?_⟩; have n0_ := Aside0.mk (Kd.R_below (by (with_reducible repeat (first | apply Kd.R_alloc | apply Kd.R_drewN | apply Kd.R_drew)); exact HO_16.out) hb); have n1_ := Aside0.mk (Kd.R_below (by (with_reducible repeat (first | apply Kd.R_alloc | apply Kd.R_drewN | apply Kd.R_drew)); exact HO360.out) hb); have n2_ := Aside0.mk (blk_below (g := gb345) (o := .cells #[.int .i64 (wrap64 (Int.tmod a0 11)), .int .i64 (wrap64 (Int.tmod a1 65)), .int .i64 (wrap64 (Int.tmod a2 129))] 23 (0, 0)) (by (with_reducible repeat (first | refine blk_drewN ?_ _ | refine blk_drew ?_ | refine blk_alloc ?_ _)); exact BK345.out) hb); have n3_ := Aside0.mk (blk_below (g := gb347) (o := .cells #[.int .i64 (wrap64 (Int.tmod a0 11)), .int .i64 (wrap64 (Int.tmod a1 65)), .int .i64 (wrap64 (Int.tmod a2 129)), .int .i64 t346, .int .u64 a3, .int .u32 a4] 27 (0, 0)) (by (with_reducible repeat (first | refine blk_drewN ?_ _ | refine blk_drew ?_ | refine blk_alloc ?_ _)); exact BK347.out) hb); have n4_ := Aside0.mk (below_step (by repeat (first | (with_reducible first | exact HB.out | apply below_alloc | apply pw_below_drewN | apply below_drew1 | refine below_set ?_ GE345.out | refine below_set ?_ GE347.out) | exact HB.out)) hb); clear HO_16; clear HO360; clear BK345; clear BK347; clear HB; have HO_16 := n0_; have HO360 := n1_; have BK345 := n2_; have BK347 := n3_; have HB := n4_; clear n0_ n1_ n2_ n3_ n4_; (try clear hb); (try clear hb2); (try clear hk); (try clear hi)) | ((with_reducible refine gate_dst (N := 18) rfl ?_); (try (refine gate_guard (by rfl) ?_; dsimp only)); refine box_event ?hg (N := 18) ?hd (cs := #[.int .i64 0, .int .i64 0, .int .i64 0, .int .i64 0, .int .u64 0, .int .u32 0]) (t := 27) ?hr ?_; (case hd => rfl); (case hg => rfl); (case hr => first | (go_simp; done) | (go_simp; rfl)); intro gb368 hg w48 hbox hb; have n0_ := Aside0.mk (Kd.R_below (by (with_reducible repeat (first | apply Kd.R_alloc | apply Kd.R_drewN | apply Kd.R_drew)); exact HO_16.out) hb); have n1_ := Aside0.mk (Kd.R_below (by (with_reducible repeat (first | apply Kd.R_alloc | apply Kd.R_drewN | apply Kd.R_drew)); exact HO360.out) hb); have n2_ := Aside0.mk (blk_below (g := gb345) (o := .cells #[.int .i64 (wrap64 (Int.tmod a0 11)), .int .i64 (wrap64 (Int.tmod a1 65)), .int .i64 (wrap64 (Int.tmod a2 129))] 23 (0, 0)) (by (with_reducible repeat (first | refine blk_drewN ?_ _ | refine blk_drew ?_ | refine blk_alloc ?_ _)); exact BK345.out) hb); have n3_ := Aside0.mk (blk_below (g := gb347) (o := .cells #[.int .i64 (wrap64 (Int.tmod a0 11)), .int .i64 (wrap64 (Int.tmod a1 65)), .int .i64 (wrap64 (Int.tmod a2 129)), .int .i64 t346, .int .u64 a3, .int .u32 a4] 27 (0, 0)) (by (with_reducible repeat (first | refine blk_drewN ?_ _ | refine blk_drew ?_ | refine blk_alloc ?_ _)); exact BK347.out) hb); have n4_ := Aside0.mk (below_step (by repeat (first | (with_reducible first | exact HB.out | apply below_alloc | apply pw_below_drewN | apply below_drew1 | refine below_set ?_ GE345.out | refine below_set ?_ GE347.out) | exact HB.out)) hb); have n5_ := Aside0.mk (hbox); have n6_ := Aside0.mk ((by rw [hg]; exact (below_size (by repeat (first | (with_reducible first | exact HB.out | apply below_alloc | apply pw_below_drewN | apply below_drew1 | refine below_set ?_ GE345.out | refine below_set ?_ GE347.out) | exact HB.out))) : w.heap.size ≤ gb368)); have n7_ := Aside0.mk ((by rw [hg]; exact (below_size (by repeat (first | (with_reducible first | exact HB.out | apply below_alloc | apply pw_below_drewN | apply below_drew1 | refine below_set ?_ GE345.out | refine below_set ?_ GE347.out) | exact HB.out))) : w.heap.size ≤ gb368)); have n8_ := Aside0.mk ((by rw [hg]; exact Nat.ne_of_lt (blk_lt (g := gb345) (o := .cells #[.int .i64 (wrap64 (Int.tmod a0 11)), .int .i64 (wrap64 (Int.tmod a1 65)), .int .i64 (wrap64 (Int.tmod a2 129))] 23 (0, 0)) (by (with_reducible repeat (first | refine blk_drewN ?_ _ | refine blk_drew ?_ | refine blk_alloc ?_ _)); exact BK345.out)) : gb345 ≠ gb368)); have n9_ := Aside0.mk ((by rw [hg]; exact Nat.ne_of_gt (blk_lt (g := gb345) (o := .cells #[.int .i64 (wrap64 (Int.tmod a0 11)), .int .i64 (wrap64 (Int.tmod a1 65)), .int .i64 (wrap64 (Int.tmod a2 129))] 23 (0, 0)) (by (with_reducible repeat (first | refine blk_drewN ?_ _ | refine blk_drew ?_ | refine blk_alloc ?_ _)); exact BK345.out)) : gb368 ≠ gb345)); have n10_ := Aside0.mk ((by rw [hg]; exact Nat.ne_of_lt (blk_lt (g := gb347) (o := .cells #[.int .i64 (wrap64 (Int.tmod a0 11)), .int .i64 (wrap64 (Int.tmod a1 65)), .int .i64 (wrap64 (Int.tmod a2 129)), .int .i64 t346, .int .u64 a3, .int .u32 a4] 27 (0, 0)) (by (with_reducible repeat (first | refine blk_drewN ?_ _ | refine blk_drew ?_ | refine blk_alloc ?_ _)); exact BK347.out)) : gb347 ≠ gb368)); have n11_ := Aside0.mk ((by rw [hg]; exact Nat.ne_of_gt (blk_lt (g := gb347) (o := .cells #[.int .i64 (wrap64 (Int.tmod a0 11)), .int .i64 (wrap64 (Int.tmod a1 65)), .int .i64 (wrap64 (Int.tmod a2 129)), .int .i64 t346, .int .u64 a3, .int .u32 a4] 27 (0, 0)) (by (with_reducible repeat (first | refine blk_drewN ?_ _ | refine blk_drew ?_ | refine blk_alloc ?_ _)); exact BK347.out)) : gb368 ≠ gb347)); clear HO_16; clear HO360; clear BK345; clear BK347; clear HB; have HO_16 := n0_; have HO360 := n1_; have BK345 := n2_; have BK347 := n3_; have HB := n4_; have BK368 := n5_; have GW368 := n6_; have GE368 := n7_; have NB345_368 := n8_; have NB368_345 := n9_; have NB347_368 := n10_; have NB368_347 := n11_; clear n0_ n1_ n2_ n3_ n4_ n5_ n6_ n7_ n8_ n9_ n10_ n11_; clear hb hbox hg; have hnb49 := NB368_345.out; have hnc49 := NB345_368.out; have hnb50 := NB368_347.out; have hnc50 := NB347_368.out; have hcz51_0 : w48.cell? ⟨gb368, 0, none⟩ = some (.int .i64 0) := (blk_cell BK368.out 0).trans rfl; have hcz51_1 : w48.cell? ⟨gb368, 1, none⟩ = some (.int .i64 0) := (blk_cell BK368.out 1).trans rfl; have hcz51_2 : w48.cell? ⟨gb368, 2, none⟩ = some (.int .i64 0) := (blk_cell BK368.out 2).trans rfl; have hcz51_3 : w48.cell? ⟨gb368, 3, none⟩ = some (.int .i64 0) := (blk_cell BK368.out 3).trans rfl; have hcz51_4 : w48.cell? ⟨gb368, 4, none⟩ = some (.int .u64 0) := (blk_cell BK368.out 4).trans rfl; have hcz51_5 : w48.cell? ⟨gb368, 5, none⟩ = some (.int .u32 0) := (blk_cell BK368.out 5).trans rfl; have hfz51_0 := blk_frozen BK368.out 0; have hfz51_1 := blk_frozen BK368.out 1; have hfz51_2 := blk_frozen BK368.out 2; have hfz51_3 := blk_frozen BK368.out 3; have hfz51_4 := blk_frozen BK368.out 4; have hfz51_5 := blk_frozen BK368.out 5) | ((with_reducible refine gate_store (t := 27) (p := 18) rfl ?_); refine store_event (t := 27) (p := 18) (v := ?vo_w52) (w1 := ((((((w48.setCell ⟨gb368, 0, none⟩ (.int .i64 t361)).setCell ⟨gb368, 1, none⟩ (.int .i64 t362)).setCell ⟨gb368, 2, none⟩ (.int .i64 t363)).setCell ⟨gb368, 3, none⟩ (.int .i64 t364)).setCell ⟨gb368, 4, none⟩ (.int .u64 t365)).setCell ⟨gb368, 5, none⟩ (.int .u32 t366))) ?hg ?ho ?hn ?hr ?_; (case ho => rfl); (case hg => rfl); (case hn => rfl); (case hr => first | (go_simp; done) | (go_simp; rfl)); intro w52 hw; have n0_ : Aside0 (Kd.R (Kd.int .u8) 5 w52 w.heap.size (fun k_ => some k_ ≠ (.slice Ao46 y358.length co46 : Value).ownBlock) (.slice Ao44 t348.length co44) t348) := ⟨(by rw [hw]; exact (by (with_reducible repeat (first | apply Kd.R_alloc | apply Kd.R_drewN | apply Kd.R_drew)); exact Kd.R_mono (Kd.R_far (p := ⟨gb368, 5, none⟩) (Kd.R_far (p := ⟨gb368, 4, none⟩) (Kd.R_far (p := ⟨gb368, 3, none⟩) (Kd.R_far (p := ⟨gb368, 2, none⟩) (Kd.R_far (p := ⟨gb368, 1, none⟩) (Kd.R_far (p := ⟨gb368, 0, none⟩) (Kd.R_types HO_16.out BK368.out (by decide)) (fun _ hk => hk.2) (.int .i64 t361)) (fun _ hk => hk.2) (.int .i64 t362)) (fun _ hk => hk.2) (.int .i64 t363)) (fun _ hk => hk.2) (.int .i64 t364)) (fun _ hk => hk.2) (.int .u64 t365)) (fun _ hk => hk.2) (.int .u32 t366)) (fun _ hk => hk.1.2)))⟩; have n1_ : Aside0 (Kd.R (Kd.int .u8) 5 w52 w.heap.size (fun k_ => some k_ ≠ (.slice Ao44 t348.length co44 : Value).ownBlock) (.slice Ao46 y358.length co46) y358) := ⟨(by rw [hw]; exact (by (with_reducible repeat (first | apply Kd.R_alloc | apply Kd.R_drewN | apply Kd.R_drew)); exact Kd.R_mono (Kd.R_far (p := ⟨gb368, 5, none⟩) (Kd.R_far (p := ⟨gb368, 4, none⟩) (Kd.R_far (p := ⟨gb368, 3, none⟩) (Kd.R_far (p := ⟨gb368, 2, none⟩) (Kd.R_far (p := ⟨gb368, 1, none⟩) (Kd.R_far (p := ⟨gb368, 0, none⟩) (Kd.R_types HO360.out BK368.out (by decide)) (fun _ hk => hk.2) (.int .i64 t361)) (fun _ hk => hk.2) (.int .i64 t362)) (fun _ hk => hk.2) (.int .i64 t363)) (fun _ hk => hk.2) (.int .i64 t364)) (fun _ hk => hk.2) (.int .u64 t365)) (fun _ hk => hk.2) (.int .u32 t366)) (fun _ hk => hk.1)))⟩; have n2_ : Aside0 (w52.heap[gb345]? = some (.cells #[.int .i64 (wrap64 (Int.tmod a0 11)), .int .i64 (wrap64 (Int.tmod a1 65)), .int .i64 (wrap64 (Int.tmod a2 129))] 23 (0, 0))) := ⟨(by rw [hw]; exact (by (with_reducible repeat (first | refine blk_drewN ?_ _ | refine blk_drew ?_ | refine blk_alloc ?_ _)); refine blk_far ?_ NB345_368.out _; (with_reducible repeat (first | refine blk_drewN ?_ _ | refine blk_drew ?_ | refine blk_alloc ?_ _)); refine blk_far ?_ NB345_368.out _; (with_reducible repeat (first | refine blk_drewN ?_ _ | refine blk_drew ?_ | refine blk_alloc ?_ _)); refine blk_far ?_ NB345_368.out _; (with_reducible repeat (first | refine blk_drewN ?_ _ | refine blk_drew ?_ | refine blk_alloc ?_ _)); refine blk_far ?_ NB345_368.out _; (with_reducible repeat (first | refine blk_drewN ?_ _ | refine blk_drew ?_ | refine blk_alloc ?_ _)); refine blk_far ?_ NB345_368.out _; (with_reducible repeat (first | refine blk_drewN ?_ _ | refine blk_drew ?_ | refine blk_alloc ?_ _)); refine blk_far ?_ NB345_368.out _; (with_reducible repeat (first | refine blk_drewN ?_ _ | refine blk_drew ?_ | refine blk_alloc ?_ _)); exact BK345.out))⟩; have n3_ : Aside0 (w52.heap[gb347]? = some (.cells #[.int .i64 (wrap64 (Int.tmod a0 11)), .int .i64 (wrap64 (Int.tmod a1 65)), .int .i64 (wrap64 (Int.tmod a2 129)), .int .i64 t346, .int .u64 a3, .int .u32 a4] 27 (0, 0))) := ⟨(by rw [hw]; exact (by (with_reducible repeat (first | refine blk_drewN ?_ _ | refine blk_drew ?_ | refine blk_alloc ?_ _)); refine blk_far ?_ NB347_368.out _; (with_reducible repeat (first | refine blk_drewN ?_ _ | refine blk_drew ?_ | refine blk_alloc ?_ _)); refine blk_far ?_ NB347_368.out _; (with_reducible repeat (first | refine blk_drewN ?_ _ | refine blk_drew ?_ | refine blk_alloc ?_ _)); refine blk_far ?_ NB347_368.out _; (with_reducible repeat (first | refine blk_drewN ?_ _ | refine blk_drew ?_ | refine blk_alloc ?_ _)); refine blk_far ?_ NB347_368.out _; (with_reducible repeat (first | refine blk_drewN ?_ _ | refine blk_drew ?_ | refine blk_alloc ?_ _)); refine blk_far ?_ NB347_368.out _; (with_reducible repeat (first | refine blk_drewN ?_ _ | refine blk_drew ?_ | refine blk_alloc ?_ _)); refine blk_far ?_ NB347_368.out _; (with_reducible repeat (first | refine blk_drewN ?_ _ | refine blk_drew ?_ | refine blk_alloc ?_ _)); exact BK347.out))⟩; have n4_ : Aside0 (w52.heap[gb368]? = some (.cells #[.int .i64 t361, .int .i64 t362, .int .i64 t363, .int .i64 t364, .int .u64 t365, .int .u32 t366] 27 (0, 0))) := ⟨(by rw [hw]; exact (by (with_reducible repeat (first | refine blk_drewN ?_ _ | refine blk_drew ?_ | refine blk_alloc ?_ _)); refine blk_put (cs := #[.int .i64 t361, .int .i64 t362, .int .i64 t363, .int .i64 t364, .int .u64 t365, .int .u32 0]) ?_ 5 _ rfl; (with_reducible repeat (first | refine blk_drewN ?_ _ | refine blk_drew ?_ | refine blk_alloc ?_ _)); refine blk_put (cs := #[.int .i64 t361, .int .i64 t362, .int .i64 t363, .int .i64 t364, .int .u64 0, .int .u32 0]) ?_ 4 _ rfl; (with_reducible repeat (first | refine blk_drewN ?_ _ | refine blk_drew ?_ | refine blk_alloc ?_ _)); refine blk_put (cs := #[.int .i64 t361, .int .i64 t362, .int .i64 t363, .int .i64 0, .int .u64 0, .int .u32 0]) ?_ 3 _ rfl; (with_reducible repeat (first | refine blk_drewN ?_ _ | refine blk_drew ?_ | refine blk_alloc ?_ _)); refine blk_put (cs := #[.int .i64 t361, .int .i64 t362, .int .i64 0, .int .i64 0, .int .u64 0, .int .u32 0]) ?_ 2 _ rfl; (with_reducible repeat (first | refine blk_drewN ?_ _ | refine blk_drew ?_ | refine blk_alloc ?_ _)); refine blk_put (cs := #[.int .i64 t361, .int .i64 0, .int .i64 0, .int .i64 0, .int .u64 0, .int .u32 0]) ?_ 1 _ rfl; (with_reducible repeat (first | refine blk_drewN ?_ _ | refine blk_drew ?_ | refine blk_alloc ?_ _)); refine blk_put (cs := #[.int .i64 0, .int .i64 0, .int .i64 0, .int .i64 0, .int .u64 0, .int .u32 0]) ?_ 0 _ rfl; (with_reducible repeat (first | refine blk_drewN ?_ _ | refine blk_drew ?_ | refine blk_alloc ?_ _)); exact BK368.out))⟩; have n5_ : Aside0 (Below w.heap.size w w52) := ⟨(by rw [hw]; exact (by repeat (first | (with_reducible first | exact HB.out | apply below_alloc | apply pw_below_drewN | apply below_drew1 | refine below_set ?_ GE345.out | refine below_set ?_ GE347.out | refine below_set ?_ GE368.out) | exact HB.out)))⟩; clear hw; clear HO_16; clear HO360; clear BK345; clear BK347; clear BK368; clear HB; have HO_16 := n0_; have HO360 := n1_; have BK345 := n2_; have BK347 := n3_; have BK368 := n4_; have HB := n5_; clear n0_ n1_ n2_ n3_ n4_ n5_; have q53 : (27 : Int) ≤ ((t348.length : Int) : Int) := of_decide_eq_true (by first | (with_reducible assumption) | assumption); obtain ⟨i053, hi053, _, hsz53, _⟩ := info_parts info5; have hroom53 : t348.length ≤ co44 := (Kd.R_reads' HO_16.out).2.1; have hC53 : Kd.C (Kd.int .u8) _ Ao44 t348.length t348 := (Kd.R_reads' HO_16.out).2.2; have hcut53 := cut_to (P := Tryd.prog) 29 5 .i64 Tryd.underlying29 hi053 Ao44 t348.length co44 27 (by omega) q53 hroom53; have hr53 := Kd.C_take (m := 27) hC53 (by omega); have hy53 : y369.length = (27 : Int).toNat := (by rw [Ny369.out, List.length_take]; omega); rw [← Ny369.out] at hr53; rw [← hy53] at hcut53; have HR372 := Aside0.mk hr53; have HC372 := Aside0.mk (show y369.length ≤ co44 from by omega); clear hr53 hC53 hroom53 hi053 hsz53; have KY53 := Aside0.mk hy53; clear hy53; have KL53 := Aside0.mk (show 27 ≤ t348.length from by omega); replace q53 := eq_true q53) | ((with_reducible refine gate_callee (f := 13) rfl ?_); refine goesL_ (some 67) rfl rfl Tryd.func13 (by kernel_rfl) rfl #[.slice Ao44 y369.length co44] rfl (by (try simp only [List.map_toArray, List.map_cons, List.map_nil]); first | done | rfl | (simp only [List.length_drop, List.length_take]; rfl)) ?_; (with_reducible refine (head_Decode.calls kj11 _ _ y369 t373 t374 t375 t376 t377 t378 t379 _ ?sideG ?side1 ?side2 A37.out).mono ?_); (case sideG => first | exact Laid.below HG.out (by repeat (first | (with_reducible first | exact HB.out | apply below_alloc | apply pw_below_drewN | apply below_drew1 | refine below_set ?_ GE345.out | refine below_set ?_ GE347.out | refine below_set ?_ GE368.out) | exact HB.out)) | repeat (first | exact Laid.below HG.out HB.out | exact HG.out | (with_reducible refine Laid.alloc ?_ _) | (with_reducible refine Laid.drewN ?_ _) | (with_reducible refine Laid.drew ?_))); (case side1 => repeat (first | exact (by repeat (first | (with_reducible exact HR372.out) | (with_reducible refine Kd.C_alloc ?_ _) | (with_reducible refine Kd.C_drewN ?_ _) | (with_reducible refine Kd.C_drew ?_) | exact HR372.out)) | (with_reducible refine Kd.C_alloc ?_ _) | (with_reducible refine Kd.C_drewN ?_ _) | (with_reducible refine Kd.C_drew ?_))); (case side2 => exact HC372.out); rintro e w54 ⟨rfl, hb⟩; refine ⟨_, rfl, ?_⟩; have n0_ := Aside0.mk (Kd.R_below (by (with_reducible repeat (first | apply Kd.R_alloc | apply Kd.R_drewN | apply Kd.R_drew)); exact HO_16.out) hb); have n1_ := Aside0.mk (Kd.R_below (by (with_reducible repeat (first | apply Kd.R_alloc | apply Kd.R_drewN | apply Kd.R_drew)); exact HO360.out) hb); have n2_ := Aside0.mk (blk_below (g := gb345) (o := .cells #[.int .i64 (wrap64 (Int.tmod a0 11)), .int .i64 (wrap64 (Int.tmod a1 65)), .int .i64 (wrap64 (Int.tmod a2 129))] 23 (0, 0)) (by (with_reducible repeat (first | refine blk_drewN ?_ _ | refine blk_drew ?_ | refine blk_alloc ?_ _)); exact BK345.out) hb); have n3_ := Aside0.mk (blk_below (g := gb347) (o := .cells #[.int .i64 (wrap64 (Int.tmod a0 11)), .int .i64 (wrap64 (Int.tmod a1 65)), .int .i64 (wrap64 (Int.tmod a2 129)), .int .i64 t346, .int .u64 a3, .int .u32 a4] 27 (0, 0)) (by (with_reducible repeat (first | refine blk_drewN ?_ _ | refine blk_drew ?_ | refine blk_alloc ?_ _)); exact BK347.out) hb); have n4_ := Aside0.mk (blk_below (g := gb368) (o := .cells #[.int .i64 t361, .int .i64 t362, .int .i64 t363, .int .i64 t364, .int .u64 t365, .int .u32 t366] 27 (0, 0)) (by (with_reducible repeat (first | refine blk_drewN ?_ _ | refine blk_drew ?_ | refine blk_alloc ?_ _)); exact BK368.out) hb); have n5_ := Aside0.mk (Kd.C_below (by repeat (first | (with_reducible exact HR372.out) | (with_reducible refine Kd.C_alloc ?_ _) | (with_reducible refine Kd.C_drewN ?_ _) | (with_reducible refine Kd.C_drew ?_) | exact HR372.out)) hb); have n6_ := Aside0.mk (below_step (by repeat (first | (with_reducible first | exact HB.out | apply below_alloc | apply pw_below_drewN | apply below_drew1 | refine below_set ?_ GE345.out | refine below_set ?_ GE347.out | refine below_set ?_ GE368.out) | exact HB.out)) hb); clear HO_16; clear HO360; clear BK345; clear BK347; clear BK368; clear HR372; clear HB; have HO_16 := n0_; have HO360 := n1_; have BK345 := n2_; have BK347 := n3_; have BK368 := n4_; have HR372 := n5_; have HB := n6_; clear n0_ n1_ n2_ n3_ n4_ n5_ n6_; (try clear hb); (try clear hb2); (try clear hk); (try clear hi)) | ((with_reducible refine gate_dst (N := 20) rfl ?_); (try (refine gate_guard (by rfl) ?_; dsimp only)); refine box_event ?hg (N := 20) ?hd (cs := #[.int .i64 0, .int .i64 0, .int .i64 0, .int .i64 0, .int .u64 0, .int .u32 0]) (t := 27) ?hr ?_; (case hd => rfl); (case hg => rfl); (case hr => first | (go_simp; done) | (go_simp; rfl)); intro gb380 hg w55 hbox hb; have n0_ := Aside0.mk (Kd.R_below (by (with_reducible repeat (first | apply Kd.R_alloc | apply Kd.R_drewN | apply Kd.R_drew)); exact HO_16.out) hb); have n1_ := Aside0.mk (Kd.R_below (by (with_reducible repeat (first | apply Kd.R_alloc | apply Kd.R_drewN | apply Kd.R_drew)); exact HO360.out) hb); have n2_ := Aside0.mk (blk_below (g := gb345) (o := .cells #[.int .i64 (wrap64 (Int.tmod a0 11)), .int .i64 (wrap64 (Int.tmod a1 65)), .int .i64 (wrap64 (Int.tmod a2 129))] 23 (0, 0)) (by (with_reducible repeat (first | refine blk_drewN ?_ _ | refine blk_drew ?_ | refine blk_alloc ?_ _)); exact BK345.out) hb); have n3_ := Aside0.mk (blk_below (g := gb347) (o := .cells #[.int .i64 (wrap64 (Int.tmod a0 11)), .int .i64 (wrap64 (Int.tmod a1 65)), .int .i64 (wrap64 (Int.tmod a2 129)), .int .i64 t346, .int .u64 a3, .int .u32 a4] 27 (0, 0)) (by (with_reducible repeat (first | refine blk_drewN ?_ _ | refine blk_drew ?_ | refine blk_alloc ?_ _)); exact BK347.out) hb); have n4_ := Aside0.mk (blk_below (g := gb368) (o := .cells #[.int .i64 t361, .int .i64 t362, .int .i64 t363, .int .i64 t364, .int .u64 t365, .int .u32 t366] 27 (0, 0)) (by (with_reducible repeat (first | refine blk_drewN ?_ _ | refine blk_drew ?_ | refine blk_alloc ?_ _)); exact BK368.out) hb); have n5_ := Aside0.mk (Kd.C_below (by repeat (first | (with_reducible exact HR372.out) | (with_reducible refine Kd.C_alloc ?_ _) | (with_reducible refine Kd.C_drewN ?_ _) | (with_reducible refine Kd.C_drew ?_) | exact HR372.out)) hb); have n6_ := Aside0.mk (below_step (by repeat (first | (with_reducible first | exact HB.out | apply below_alloc | apply pw_below_drewN | apply below_drew1 | refine below_set ?_ GE345.out | refine below_set ?_ GE347.out | refine below_set ?_ GE368.out) | exact HB.out)) hb); have n7_ := Aside0.mk (hbox); have n8_ := Aside0.mk ((by rw [hg]; exact (below_size (by repeat (first | (with_reducible first | exact HB.out | apply below_alloc | apply pw_below_drewN | apply below_drew1 | refine below_set ?_ GE345.out | refine below_set ?_ GE347.out | refine below_set ?_ GE368.out) | exact HB.out))) : w.heap.size ≤ gb380)); have n9_ := Aside0.mk ((by rw [hg]; exact (below_size (by repeat (first | (with_reducible first | exact HB.out | apply below_alloc | apply pw_below_drewN | apply below_drew1 | refine below_set ?_ GE345.out | refine below_set ?_ GE347.out | refine below_set ?_ GE368.out) | exact HB.out))) : w.heap.size ≤ gb380)); have n10_ := Aside0.mk ((by rw [hg]; exact Nat.ne_of_lt (blk_lt (g := gb345) (o := .cells #[.int .i64 (wrap64 (Int.tmod a0 11)), .int .i64 (wrap64 (Int.tmod a1 65)), .int .i64 (wrap64 (Int.tmod a2 129))] 23 (0, 0)) (by (with_reducible repeat (first | refine blk_drewN ?_ _ | refine blk_drew ?_ | refine blk_alloc ?_ _)); exact BK345.out)) : gb345 ≠ gb380)); have n11_ := Aside0.mk ((by rw [hg]; exact Nat.ne_of_gt (blk_lt (g := gb345) (o := .cells #[.int .i64 (wrap64 (Int.tmod a0 11)), .int .i64 (wrap64 (Int.tmod a1 65)), .int .i64 (wrap64 (Int.tmod a2 129))] 23 (0, 0)) (by (with_reducible repeat (first | refine blk_drewN ?_ _ | refine blk_drew ?_ | refine blk_alloc ?_ _)); exact BK345.out)) : gb380 ≠ gb345)); have n12_ := Aside0.mk ((by rw [hg]; exact Nat.ne_of_lt (blk_lt (g := gb347) (o := .cells #[.int .i64 (wrap64 (Int.tmod a0 11)), .int .i64 (wrap64 (Int.tmod a1 65)), .int .i64 (wrap64 (Int.tmod a2 129)), .int .i64 t346, .int .u64 a3, .int .u32 a4] 27 (0, 0)) (by (with_reducible repeat (first | refine blk_drewN ?_ _ | refine blk_drew ?_ | refine blk_alloc ?_ _)); exact BK347.out)) : gb347 ≠ gb380)); have n13_ := Aside0.mk ((by rw [hg]; exact Nat.ne_of_gt (blk_lt (g := gb347) (o := .cells #[.int .i64 (wrap64 (Int.tmod a0 11)), .int .i64 (wrap64 (Int.tmod a1 65)), .int .i64 (wrap64 (Int.tmod a2 129)), .int .i64 t346, .int .u64 a3, .int .u32 a4] 27 (0, 0)) (by (with_reducible repeat (first | refine blk_drewN ?_ _ | refine blk_drew ?_ | refine blk_alloc ?_ _)); exact BK347.out)) : gb380 ≠ gb347)); have n14_ := Aside0.mk ((by rw [hg]; exact Nat.ne_of_lt (blk_lt (g := gb368) (o := .cells #[.int .i64 t361, .int .i64 t362, .int .i64 t363, .int .i64 t364, .int .u64 t365, .int .u32 t366] 27 (0, 0)) (by (with_reducible repeat (first | refine blk_drewN ?_ _ | refine blk_drew ?_ | refine blk_alloc ?_ _)); exact BK368.out)) : gb368 ≠ gb380)); have n15_ := Aside0.mk ((by rw [hg]; exact Nat.ne_of_gt (blk_lt (g := gb368) (o := .cells #[.int .i64 t361, .int .i64 t362, .int .i64 t363, .int .i64 t364, .int .u64 t365, .int .u32 t366] 27 (0, 0)) (by (with_reducible repeat (first | refine blk_drewN ?_ _ | refine blk_drew ?_ | refine blk_alloc ?_ _)); exact BK368.out)) : gb380 ≠ gb368)); clear HO_16; clear HO360; clear BK345; clear BK347; clear BK368; clear HR372; clear HB; have HO_16 := n0_; have HO360 := n1_; have BK345 := n2_; have BK347 := n3_; have BK368 := n4_; have HR372 := n5_; have HB := n6_; have BK380 := n7_; have GW380 := n8_; have GE380 := n9_; have NB345_380 := n10_; have NB380_345 := n11_; have NB347_380 := n12_; have NB380_347 := n13_; have NB368_380 := n14_; have NB380_368 := n15_; clear n0_ n1_ n2_ n3_ n4_ n5_ n6_ n7_ n8_ n9_ n10_ n11_ n12_ n13_ n14_ n15_; clear hb hbox hg; have hnb56 := NB380_345.out; have hnc56 := NB345_380.out; have hnb57 := NB380_347.out; have hnc57 := NB347_380.out; have hnb58 := NB380_368.out; have hnc58 := NB368_380.out; have hcz59_0 : w55.cell? ⟨gb380, 0, none⟩ = some (.int .i64 0) := (blk_cell BK380.out 0).trans rfl; have hcz59_1 : w55.cell? ⟨gb380, 1, none⟩ = some (.int .i64 0) := (blk_cell BK380.out 1).trans rfl; have hcz59_2 : w55.cell? ⟨gb380, 2, none⟩ = some (.int .i64 0) := (blk_cell BK380.out 2).trans rfl; have hcz59_3 : w55.cell? ⟨gb380, 3, none⟩ = some (.int .i64 0) := (blk_cell BK380.out 3).trans rfl; have hcz59_4 : w55.cell? ⟨gb380, 4, none⟩ = some (.int .u64 0) := (blk_cell BK380.out 4).trans rfl; have hcz59_5 : w55.cell? ⟨gb380, 5, none⟩ = some (.int .u32 0) := (blk_cell BK380.out 5).trans rfl; have hfz59_0 := blk_frozen BK380.out 0; have hfz59_1 := blk_frozen BK380.out 1; have hfz59_2 := blk_frozen BK380.out 2; have hfz59_3 := blk_frozen BK380.out 3; have hfz59_4 := blk_frozen BK380.out 4; have hfz59_5 := blk_frozen BK380.out 5; have hcz60_0 : w55.cell? ⟨gb368, 0, none⟩ = some (.int .i64 t361) := (blk_cell BK368.out 0).trans rfl; have hcz60_1 : w55.cell? ⟨gb368, 1, none⟩ = some (.int .i64 t362) := (blk_cell BK368.out 1).trans rfl; have hcz60_2 : w55.cell? ⟨gb368, 2, none⟩ = some (.int .i64 t363) := (blk_cell BK368.out 2).trans rfl; have hcz60_3 : w55.cell? ⟨gb368, 3, none⟩ = some (.int .i64 t364) := (blk_cell BK368.out 3).trans rfl; have hcz60_4 : w55.cell? ⟨gb368, 4, none⟩ = some (.int .u64 t365) := (blk_cell BK368.out 4).trans rfl; have hcz60_5 : w55.cell? ⟨gb368, 5, none⟩ = some (.int .u32 t366) := (blk_cell BK368.out 5).trans rfl; have hfz60_0 := blk_frozen BK368.out 0; have hfz60_1 := blk_frozen BK368.out 1; have hfz60_2 := blk_frozen BK368.out 2; have hfz60_3 := blk_frozen BK368.out 3; have hfz60_4 := blk_frozen BK368.out 4; have hfz60_5 := blk_frozen BK368.out 5; have hnb61 := NB347_345.out; have hnc61 := NB345_347.out; have hcz62_0 : w55.cell? ⟨gb347, 0, none⟩ = some (.int .i64 (wrap64 (Int.tmod a0 11))) := (blk_cell BK347.out 0).trans rfl; have hcz62_1 : w55.cell? ⟨gb347, 1, none⟩ = some (.int .i64 (wrap64 (Int.tmod a1 65))) := (blk_cell BK347.out 1).trans rfl; have hcz62_2 : w55.cell? ⟨gb347, 2, none⟩ = some (.int .i64 (wrap64 (Int.tmod a2 129))) := (blk_cell BK347.out 2).trans rfl; have hcz62_3 : w55.cell? ⟨gb347, 3, none⟩ = some (.int .i64 t346) := (blk_cell BK347.out 3).trans rfl; have hcz62_4 : w55.cell? ⟨gb347, 4, none⟩ = some (.int .u64 a3) := (blk_cell BK347.out 4).trans rfl; have hcz62_5 : w55.cell? ⟨gb347, 5, none⟩ = some (.int .u32 a4) := (blk_cell BK347.out 5).trans rfl; have hfz62_0 := blk_frozen BK347.out 0; have hfz62_1 := blk_frozen BK347.out 1; have hfz62_2 := blk_frozen BK347.out 2; have hfz62_3 := blk_frozen BK347.out 3; have hfz62_4 := blk_frozen BK347.out 4; have hfz62_5 := blk_frozen BK347.out 5))
                      go_ret
                      exact ⟨by first | rfl | (simp [errW_none, errW_some] <;> rfl) | (simp [*, errW_none, errW_some] <;> rfl), by repeat (first | (with_reducible first | exact HB.out | apply below_alloc | apply pw_below_drewN | apply below_drew1 | refine below_set ?_ GE345.out | refine below_set ?_ GE347.out | refine below_set ?_ GE368.out | refine below_set ?_ GE380.out) | exact HB.out)⟩
                    · rw [if_neg c40] at H
                      exact absurd H (by simp)
                  · rw [if_neg c39] at H
                    exact absurd H (by simp)
                · replace c38 := Bool.eq_false_iff.mpr c38
                  subst c38
                  have H1 : (none) = some r := by rw [if_neg (show ¬ (false = true) by decide)] at H; exact H
                  clear H
                  have H := H1
                  clear H1
                  exact absurd H (by simp)
              · rw [if_neg c36] at H
                exact absurd H (by simp)
            · rw [if_neg c34] at H
              exact absurd H (by simp)
          · rw [if_neg c33] at H
            exact absurd H (by simp)

/-- THE ONE PURE STATEMENT of keepsakelaw04_HeadBack: yours. -/
def keepsakelaw04_HeadBack.Pure : Prop := ∀ (a0 : Int) (a1 : Int) (a2 : Int) (a3 : Int) (a4 : Int) (l5 : List Int), (Lit.int .u8 a0).wf = true → (Lit.int .u8 a1).wf = true → (Lit.int .u8 a2).wf = true → (Lit.int .u64 a3).wf = true → (Lit.int .u32 a4).wf = true → l5.length ≤ maxLen → l5.length * 1 ≤ 140737488351232 → (∀ x ∈ l5, (Lit.int .u8 x).wf = true) → ∃ k, keepsakelaw04_HeadBack.f k a0 a1 a2 a3 a4 l5 = some true
theorem keepsakelaw04_HeadBack.walk (P : keepsakelaw04_HeadBack.Pure) (a0 : Int) (a1 : Int) (a2 : Int) (a3 : Int) (a4 : Int) (a5 : Option Addr) (len5 cap5 : Nat) (z5 : List Int) (w : World) (hG : Laid w) (w0 : (Lit.int .u8 a0).wf = true) (w1 : (Lit.int .u8 a1).wf = true) (w2 : (Lit.int .u8 a2).wf = true) (w3 : (Lit.int .u64 a3).wf = true) (w4 : (Lit.int .u32 a4).wf = true) (w5 : (a5 = none ∧ len5 = 0 ∧ cap5 = 0 ∧ z5 = []) ∨ ∃ x, a5 = some x ∧ len5 ≤ cap5 ∧ cap5 ≤ maxLen ∧ z5.length = cap5 ∧ (∀ i, i < z5.length → w.cell? (x.add i) = some (.int .u8 (z5.getD i 0))) ∧ ∀ n ∈ z5, (Lit.int .u8 n).wf = true) (y5 : len5 * 1 ≤ 140737488351232) :
    Calls Tryd.prog 5 #[.int .u8 a0, .int .u8 a1, .int .u8 a2, .int .u64 a3, .int .u32 a4, .slice a5 len5 cap5] w fun e w' => e = .returned (.bool true) ∧ Below w.heap.size w w' := by
  obtain ⟨l5, rfl, hr5, hm5, hw5, hc5⟩ := ReadsInt.ofRowC w5
  obtain ⟨k, h⟩ := P a0 a1 a2 a3 a4 l5 w0 w1 w2 w3 w4 hm5 y5 hw5
  refine (keepsakelaw04_HeadBack.calls k a0 a1 a2 a3 a4 _ _ l5 true w hG (Kd.C_of_reads (d := (0 : Int)) (h1 := fun _ => rfl) hr5) hc5 h).mono ?_
  rintro e w' ⟨rfl, hd⟩
  exact ⟨rfl, hd⟩

end Go.Proofs.YtlinaijndlcfjaaDoor.All
