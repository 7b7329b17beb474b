-- written by a program of mine (xprint_patch.py over the kit's print)
import Derived.Test.YtoiiphlhdnlniaaAx0
import Derived.Test.YtoiiphlhdnlniaaAx3
namespace Go.Proofs.Ytoiiphlhdnlniaa.Given
end Go.Proofs.Ytoiiphlhdnlniaa.Given
namespace Go.Proofs.Ytoiiphlhdnlniaa.All
open Go.Proofs.Ytoiiphlhdnlniaa.Given
open Go.RowKit Go.Proofs.YtoiiphlhdnlniaaW.PrintWords Go.Proofs.YtoiiphlhdnlniaaW.PrintLast Go.Proofs.YtoiiphlhdnlniaaW.PrintMore
attribute [local go_sem] max2_int min2_int max_two min_two max_three min_three max_four min_four   -- for this text's walks alone
set_option linter.unusedVariables false
set_option linter.unusedSimpArgs false

/-! ### keepsakeref01_left: function 33 -/
mutual
def keepsakeref01_left.l0 : Nat → List Bool → List Int → Int → Option (List Bool)
 | 0, _, _, _ => none
 | k + 1, x0, x3, x4 => if (wrap64 (x4 + 32)) < (x0.length : Int) then (if 0 ≤ x4 then (if x4 < (x0.length : Int) then (if rdOf false x0 x4 = true then (keepsakeref01_left.l1 k x0 x3 x4 0) else (keepsakeref01_left.l0 k x0 x3 (wrap64 (x4 + 1)))) else (none)) else (none)) else (if 0 ≤ (wrap64 ((x0.length : Int) - 32)) then (if (wrap64 ((x0.length : Int) - 32)) ≤ (x0.length : Int) then (some (x0.drop ((wrap64 ((x0.length : Int) - 32)) : Int).toNat)) else (none)) else (none))
def keepsakeref01_left.l1 : Nat → List Bool → List Int → Int → Int → Option (List Bool)
 | 0, _, _, _, _ => none
 | k + 1, x0, x3, x4, x5 => if x5 < (x3.length : Int) then (if 0 ≤ x5 then (if 0 ≤ (wrap64 (x4 + (rd x3 x5))) then (if (wrap64 (x4 + (rd x3 x5))) < (x0.length : Int) then (keepsakeref01_left.l1 k (x0.set ((wrap64 (x4 + (rd x3 x5))) : Int).toNat (!(rdOf false x0 (wrap64 (x4 + (rd x3 x5)))))) x3 x4 (wrap64 (x5 + 1))) else (none)) else (none)) else (none)) else (keepsakeref01_left.l0 k x0 x3 (wrap64 (x4 + 1)))
end
def keepsakeref01_left.f (k : Nat) (l0 : List Bool) : Option (List Bool) := (keepsakeref01_divisor.f).bind fun t150 => (keepsakeref01_left.l0 k l0 t150 0)
theorem keepsakeref01_left.mono_l : ∀ k, (∀ y0 y1 y2, LeO (keepsakeref01_left.l0 k y0 y1 y2) (keepsakeref01_left.l0 (k + 1) y0 y1 y2)) ∧ (∀ y0 y1 y2 y3, LeO (keepsakeref01_left.l1 k y0 y1 y2 y3) (keepsakeref01_left.l1 (k + 1) y0 y1 y2 y3))
 | 0 => ⟨fun _ _ _ r h => by simp [keepsakeref01_left.l0] at h, fun _ _ _ _ r h => by simp [keepsakeref01_left.l1] at h⟩
 | k + 1 => by
  obtain ⟨ih0, ih1⟩ := keepsakeref01_left.mono_l k
  refine ⟨?_, ?_⟩
  · intro y0 y1 y2
    unfold keepsakeref01_left.l0
    repeat' first
    | (with_reducible exact ih0 _ _ _)
    | (with_reducible exact ih1 _ _ _ _)
    | (with_reducible exact LeO.refl _)
    | (with_reducible exact LeO.none _)
    | (with_reducible refine LeO.ite ?_ ?_)
    | (with_reducible refine LeO.bind ?_ (fun _ => ?_))
    | exact ih0 _ _ _
    | exact ih1 _ _ _ _
    | exact LeO.none _
    | refine LeO.ite ?_ ?_
    | refine LeO.bind ?_ (fun _ => ?_)
  · intro y0 y1 y2 y3
    unfold keepsakeref01_left.l1
    repeat' first
    | (with_reducible exact ih0 _ _ _)
    | (with_reducible exact ih1 _ _ _ _)
    | (with_reducible exact LeO.refl _)
    | (with_reducible exact LeO.none _)
    | (with_reducible refine LeO.ite ?_ ?_)
    | (with_reducible refine LeO.bind ?_ (fun _ => ?_))
    | exact ih0 _ _ _
    | exact ih1 _ _ _ _
    | exact LeO.none _
    | refine LeO.ite ?_ ?_
    | refine LeO.bind ?_ (fun _ => ?_)
theorem keepsakeref01_left.mono : ∀ a0 k, LeO (keepsakeref01_left.f k a0) (keepsakeref01_left.f (k + 1) a0) := by
 intro a0 k
 obtain ⟨ih0, ih1⟩ := keepsakeref01_left.mono_l k
 unfold keepsakeref01_left.f
 repeat' first
  | (with_reducible exact ih0 _ _ _)
  | (with_reducible exact ih1 _ _ _ _)
  | (with_reducible exact LeO.refl _)
  | (with_reducible exact LeO.none _)
  | (with_reducible refine LeO.ite ?_ ?_)
  | (with_reducible refine LeO.bind ?_ (fun _ => ?_))
  | exact ih0 _ _ _
  | exact ih1 _ _ _ _
  | exact LeO.none _
  | refine LeO.ite ?_ ?_
  | refine LeO.bind ?_ (fun _ => ?_)
def keepsakeref01_left.T9 : Bool × List (List Nat × List Nat) := (true, [([], []), ([], []), ([], []), ([], []), ([2, 3], [2, 3]), ([4], [4]), ([1, 5], [1, 5]), ([], []), ([], []), ([], []), ([], []), ([9, 10], [9, 10]), ([11], [11]), ([8, 12], [8, 12]), ([7, 13], [7, 13]), ([14], [14]), ([15], [15]), ([0, 6, 0, 1, 2, 3, 4, 5, 6, 7, 8, 9, 10, 11, 12, 13, 14, 15, 16], [0, 6]), ([17, 16, 0, 1, 2, 3, 4, 5, 6, 7, 8, 9, 10, 11, 12, 13, 14, 15, 16], [16, 17])])
def keepsakeref01_left.B9 : List Nat := [0, 0, 0, 0, 12, 28, 62, 0, 0, 0, 0, 1536, 3584, 7936, 16256, 32640, 65408, 131071, 262143]
theorem keepsakeref01_left.tab9 : rtab .any (opsOf Try.f33 9) = keepsakeref01_left.T9 := by kernel_rfl
theorem keepsakeref01_left.bits9 : waitsOk keepsakeref01_left.T9.2 keepsakeref01_left.B9 = true := by kernel_rfl
set_option maxHeartbeats 8000000 in
set_option maxRecDepth 100000 in
theorem keepsakeref01_left.calls (k : Nat) (P0_ : Nat → Prop) (u9000_ : Value) (l0 : List Bool) (r : List Bool) (w0 w : World) (hB : Below w0.heap.size w0 w) (ho0 : Kd.R Kd.bool 4 w w0.heap.size P0_ u9000_ l0) (h : keepsakeref01_left.f k l0 = some r) :
 Calls Try.prog 33 #[u9000_] w fun e w' => ∃ v0_ : Value, e = .returned (v0_) ∧ Kd.Q Kd.bool 4 w' w0.heap.size (fun k_ => (P0_ k_ ∨ w.heap.size ≤ k_)) v0_ r ∧ Below w0.heap.size w0 w' ∧ Kept w w' (fun k_ => P0_ k_) := by
 have HO0 := Aside0.mk (show Kd.R Kd.bool 4 w w0.heap.size (fun k_ => (P0_ k_ ∨ w.heap.size ≤ k_)) u9000_ l0 from Kd.R_mono ho0 (fun k_ hk => (.inl hk)))
 have HK := Aside0.mk (Kept.refl w (fun k_ => P0_ k_))
 have HW0 := Aside0.mk hB.size
 have HB := Aside0.mk hB
 clear hB
 have H : ((keepsakeref01_divisor.f).bind fun t150 => (keepsakeref01_left.l0 k l0 t150 0)) = some r := h
 clear h
 replace H := Option.bind_eq_some_iff.mp H
 obtain ⟨t150, A20, H⟩ := H
 replace H : (keepsakeref01_left.l0 k l0 t150 0) = some r := H
 have A2 := Aside0.mk A20
 clear A20
 have H' := Aside0.mk H
 clear H
 go_enter Try.func33, Try.ntmps33
 go_wp2_with (first | ((with_reducible refine gate_callee (f := 37) rfl ?_); refine goesL_ (some 6) rfl rfl Try.func37 (by kernel_rfl) rfl #[] rfl (by (try simp only [List.map_toArray, List.map_cons, List.map_nil]); first | done | rfl | (simp only [List.length_drop, List.length_take]; rfl)) ?_; (with_reducible refine (keepsakeref01_divisor.calls  t150 _ A2.out).mono ?_); rintro e w3 ⟨v151, rfl, ho0, hb⟩; refine ⟨_, rfl, ?_⟩; have n0_ := Aside0.mk (Kd.R_below (by (with_reducible repeat (first | apply Kd.R_alloc | apply Kd.R_drewN | apply Kd.R_drew)); exact HO0.out) hb); have n1_ := Aside0.mk (Kd.R_lower (Kd.R_newM (M := fun k_ => (P0_ k_ ∨ w.heap.size ≤ k_)) ho0 (by first | exact HK.out.1 | exact (show Kept w _ (fun k_ => P0_ k_) from by repeat (first | (with_reducible first | exact HK.out | apply Kept.alloc | apply Kept.drewN | apply Kept.drew) | exact HK.out)).1) (fun k_ h_ => .inr h_)) (below_size (by repeat (first | (with_reducible first | exact HB.out | apply below_alloc | apply pw_below_drewN | apply below_drew1) | exact HB.out)))); have n2_ := Aside0.mk (Kept.below (S := (fun k_ => P0_ k_)) (by repeat (first | (with_reducible first | exact HK.out | apply Kept.alloc | apply Kept.drewN | apply Kept.drew) | exact HK.out)) hb); have n3_ := Aside0.mk (below_step (by repeat (first | (with_reducible first | exact HB.out | apply below_alloc | apply pw_below_drewN | apply below_drew1) | exact HB.out)) hb); clear HO0; clear HK; clear HB; have HO0 := n0_; have HO152 := n1_; have HK := n2_; have HB := n3_; clear n0_ n1_ n2_ n3_; (try clear hb); (try clear hb2); (try clear hk); (try clear hi); (try clear ho0)))
 go_loopg [4] k (fun kq v4 w' => ∃ (x0_1 : List Bool) (x4_1 : Int), v4 = .int .i64 x4_1 ∧ Aside0 (keepsakeref01_left.l0 kq x0_1 t150 x4_1 = some r) ∧ Aside0 (kq ≤ k) ∧ Aside0 (Kd.R Kd.bool 4 w' w0.heap.size (fun k_ => (P0_ k_ ∨ w.heap.size ≤ k_)) u9000_ x0_1) ∧ Aside0 (Kd.R (Kd.int .i64) 3 w' w0.heap.size (fun k_ => (P0_ k_ ∨ w.heap.size ≤ k_)) v151 t150) ∧ Aside0 (Kept w w' (fun k_ => P0_ k_)) ∧ Aside0 (Below w0.heap.size w0 w'))
 case atStart => exact ⟨(l0), (0), (by first | rfl | (simp; done) | (simp [*]; done) | (simp; omega)), H', ⟨Nat.le_refl _⟩, ⟨by (with_reducible repeat (first | apply Kd.R_alloc | apply Kd.R_drewN | apply Kd.R_drew)); exact HO0.out⟩, ⟨by (with_reducible repeat (first | apply Kd.R_alloc | apply Kd.R_drewN | apply Kd.R_drew)); exact Kd.R_mono HO152.out (fun _ hk => hk.1)⟩, ⟨by repeat (first | (with_reducible first | exact HK.out | apply Kept.alloc | apply Kept.drewN | apply Kept.drew) | exact HK.out)⟩, ⟨by repeat (first | (with_reducible first | exact HB.out | apply below_alloc | apply pw_below_drewN | apply below_drew1) | exact HB.out)⟩⟩
 case round =>
  clear H'
  try clear p2
  try clear c3
  obtain ⟨x0_1, x4_1, rfl, HA, HK1, HO_0, HO_3, HK, HB⟩ := hrel
  cases gk with
  | zero => exact absurd HA.out (by simp [keepsakeref01_left.l0])
  | succ k1 =>
   have H := HA.out
   clear HA
   simp only [keepsakeref01_left.l0] at H
   by_cases c4 : (wrap64 (x4_1 + 32)) < (x0_1.length : Int)
   · rw [if_pos c4] at H
     have c4b0 : decide ((wrap64 (x4_1 + 32)) < (x0_1.length : Int)) = true := decide_eq_true c4
     clear c4
     by_cases c5 : 0 ≤ x4_1
     · rw [if_pos c5] at H
       have c5b0 : decide (0 ≤ x4_1) = true := decide_eq_true c5
       clear c5
       by_cases c6 : x4_1 < (x0_1.length : Int)
       · rw [if_pos c6] at H
         have c6b0 : decide (x4_1 < (x0_1.length : Int)) = true := decide_eq_true c6
         clear c6
         obtain ⟨bq7, hbq7⟩ : ∃ b_ : Bool, b_ = (rdOf false x0_1 x4_1) := ⟨_, rfl⟩
         replace H : (if bq7 = true then (keepsakeref01_left.l1 k1 x0_1 t150 x4_1 0) else (keepsakeref01_left.l0 k1 x0_1 t150 (wrap64 (x4_1 + 1)))) = some r := by rw [← hbq7] at H; exact H
         have Nbq7 := Aside0.mk hbq7
         clear hbq7
         by_cases c8 : bq7 = true
         · subst c8
           have H1 : (keepsakeref01_left.l1 k1 x0_1 t150 x4_1 0) = some r := by rw [if_pos rfl] at H; exact H
           clear H
           have H := H1
           clear H1
           have H' := Aside0.mk H
           clear H
           obtain ⟨Ao9, co9, eo9⟩ := Kd.R_slice HO_0.out
           subst eo9
           have p156 : 0 ≤ (x4_1 : Int) := of_decide_eq_true (by first | (with_reducible assumption) | assumption)
           have q156 : x4_1 < (x0_1.length : Int) := of_decide_eq_true (by first | (with_reducible assumption) | assumption)
           obtain ⟨ad156, e156, hx156_0⟩ := Kd.at_bool (Kd.R_reads' HO_0.out).2.2 x4_1 p156 q156
           (try rw [← Nbq7.out] at hx156_0)
           cases e156
           replace p156 := eq_true p156
           replace q156 := eq_true q156
           go_wp2
           obtain ⟨go15, co_9, eo_9, gb_9, gl_9, cl_9, HG_9⟩ := Kd.R_form HO_0.out (by have a_ := of_eq_true p156; have b_ := of_eq_true q156; omega)
           (first | cases eo_9 | (injection eo_9 with ea_ en_ ec_; injection ea_ with ea_; subst ea_; subst ec_; clear en_))
           clear gb_9 gl_9 HG_9
           simp only [add_plain]
           go_loopg [5] k1 (fun kq v5 w' => ∃ (x0_2 : List Bool) (x5_2 : Int), v5 = .int .i64 x5_2 ∧ Aside0 (keepsakeref01_left.l1 kq x0_2 t150 x4_1 x5_2 = some r) ∧ Aside0 (kq ≤ k1) ∧ Aside0 (Kd.R Kd.bool 4 w' w0.heap.size (fun k_ => (P0_ k_ ∨ w.heap.size ≤ k_)) (.slice (some ⟨go15, 0, none⟩) x0_1.length co9) x0_2) ∧ Aside0 (Kd.R (Kd.int .i64) 3 w' w0.heap.size (fun k_ => (P0_ k_ ∨ w.heap.size ≤ k_)) v151 t150) ∧ Aside0 (Kept w w' (fun k_ => P0_ k_)) ∧ Aside0 (Below w0.heap.size w0 w'))
           case atStart => exact ⟨(x0_1), (0), (by first | rfl | (simp; done) | (simp [*]; done) | (simp; omega)), H', ⟨Nat.le_refl _⟩, ⟨by (with_reducible repeat (first | apply Kd.R_alloc | apply Kd.R_drewN | apply Kd.R_drew)); exact HO_0.out⟩, ⟨by (with_reducible repeat (first | apply Kd.R_alloc | apply Kd.R_drewN | apply Kd.R_drew)); exact HO_3.out⟩, ⟨by repeat (first | (with_reducible first | exact HK.out | apply Kept.alloc | apply Kept.drewN | apply Kept.drew) | exact HK.out)⟩, ⟨by repeat (first | (with_reducible first | exact HB.out | apply below_alloc | apply pw_below_drewN | apply below_drew1) | exact HB.out)⟩⟩
           case round =>
            clear H'
            try clear p1
            try clear q1
            try clear hx1
            try clear p2
            try clear c3
            try clear c4
            try clear c4b0
            try clear c5
            try clear c5b0
            try clear c6
            try clear c6b0
            try clear p6
            try clear q7
            try clear c8
            try clear hx156_0
            try clear p156
            try clear p2
            try clear q156
            obtain ⟨x0_2, x5_2, rfl, HA, HK2, HO_0, HO_3, HK, HB⟩ := hrel
            have hl0_2 := (Kd.R_reads' HO_0.out).1
            rw [hl0_2] at HO_0
            (try simp only [hl0_2])
            (try simp only [hl0_2] at HO_3)
            cases gk with
            | zero => exact absurd HA.out (by simp [keepsakeref01_left.l1])
            | succ k2 =>
             have H := HA.out
             clear HA
             simp only [keepsakeref01_left.l1] at H
             by_cases c10 : x5_2 < (t150.length : Int)
             · rw [if_pos c10] at H
               have c10b0 : decide (x5_2 < (t150.length : Int)) = true := decide_eq_true c10
               clear c10
               by_cases c11 : 0 ≤ x5_2
               · rw [if_pos c11] at H
                 have c11b0 : decide (0 ≤ x5_2) = true := decide_eq_true c11
                 clear c11
                 obtain ⟨ji12, hji12⟩ : ∃ j_ : Int, (wrap64 (x4_1 + (rd t150 x5_2))) = j_ := ⟨_, rfl⟩
                 replace H : (if 0 ≤ (ji12) then (if (ji12) < (x0_2.length : Int) then (keepsakeref01_left.l1 k2 (x0_2.set ((ji12) : Int).toNat (!(rdOf false x0_2 (ji12)))) t150 x4_1 (wrap64 (x5_2 + 1))) else (none)) else (none)) = some r := by first | (rw [hji12] at H; exact H) | (simp only [hji12] at H ⊢; exact H)
                 have hji12w : (IntKind.i64.wrap (x4_1 + (rd t150 x5_2))) = ji12 := (i64_w _).trans hji12
                 by_cases c13 : 0 ≤ (ji12)
                 · rw [if_pos c13] at H
                   have c13b0 : decide (0 ≤ (ji12)) = true := decide_eq_true c13
                   clear c13
                   by_cases c14 : (ji12) < (x0_2.length : Int)
                   · rw [if_pos c14] at H
                     have c14b0 : decide ((ji12) < (x0_2.length : Int)) = true := decide_eq_true c14
                     clear c14
                     obtain ⟨y160, hy160⟩ : ∃ y_ : List Bool, y_ = (x0_2.set ((ji12) : Int).toNat (!(rdOf false x0_2 (ji12)))) := ⟨_, rfl⟩
                     replace H : (keepsakeref01_left.l1 k2 y160 t150 x4_1 (wrap64 (x5_2 + 1))) = some r := by first | (rw [hy160]; with_reducible exact H) | (have H2_ := (Option.bind_some _ _).symm.trans H; rw [hy160]; with_reducible exact H2_) | (have H2_ := (Option.bind_some _ _).symm.trans H; with_reducible exact H2_) | with_reducible exact H | (rw [hy160]; exact H) | exact H
                     have Ny160 := Aside0.mk hy160
                     clear hy160
                     have H' := Aside0.mk H
                     clear H
                     obtain ⟨Ao16, co16, eo16⟩ := Kd.R_slice HO_3.out
                     subst eo16
                     try go_wp2
                     have n0_ := Aside0.mk (Kd.R_drew HO_0.out)
                     have n1_ := Aside0.mk (Kd.R_drew HO_3.out)
                     have n2_ := Aside0.mk (Kept.drew HK.out)
                     have n3_ := Aside0.mk (below_drew1 HB.out)
                     clear HO_0
                     clear HO_3
                     clear HK
                     clear HB
                     have HO_0 := n0_
                     have HO_3 := n1_
                     have HK := n2_
                     have HB := n3_
                     clear n0_ n1_ n2_ n3_
                     have p157 : 0 ≤ (x5_2 : Int) := of_decide_eq_true (by first | (with_reducible assumption) | assumption)
                     have q157 : x5_2 < (t150.length : Int) := of_decide_eq_true (by first | (with_reducible assumption) | assumption)
                     obtain ⟨ad157, e157, hx157_0⟩ := Kd.at_int (Kd.R_reads' HO_3.out).2.2 x5_2 p157 q157
                     cases e157
                     replace p157 := eq_true p157
                     replace q157 := eq_true q157
                     have p158 : 0 ≤ (x5_2 : Int) := of_decide_eq_true (by first | (with_reducible assumption) | assumption)
                     have q158 : x5_2 < (t150.length : Int) := of_decide_eq_true (by first | (with_reducible assumption) | assumption)
                     obtain ⟨ad158, e158, hx158_0⟩ := Kd.at_int (Kd.R_reads' HO_3.out).2.2 x5_2 p158 q158
                     obtain rfl : ad157 = ad158 := (by injection e158)
                     replace p158 := eq_true p158
                     replace q158 := eq_true q158
                     have p159 : 0 ≤ ((ji12) : Int) := of_decide_eq_true (by first | (with_reducible assumption) | assumption)
                     have q159 : (ji12) < (x0_2.length : Int) := of_decide_eq_true (by first | (with_reducible assumption) | assumption)
                     obtain ⟨ad159, e159, hx159_0⟩ := Kd.at_bool (Kd.R_reads' HO_0.out).2.2 (ji12) p159 q159
                     (try rw [← Nbq7.out] at hx159_0)
                     obtain rfl : (⟨go15, 0, none⟩ : Addr) = ad159 := (by injection e159)
                     replace p159 := eq_true p159
                     replace q159 := eq_true q159
                     have p15 : 0 ≤ ((ji12) : Int) := of_decide_eq_true (by first | (with_reducible assumption) | assumption)
                     have q15 : ((ji12) : Int) < ((x0_2.length : Int) : Int) := of_decide_eq_true (by first | (with_reducible assumption) | assumption)
                     obtain ⟨go15, co15, eo15, gb15, gl15, cl15, HG15⟩ := Kd.R_form HO_0.out (by omega)
                     (first | cases eo15 | (injection eo15 with ea_ en_ ec_; (first | subst ea_ | (injection ea_ with ea_; subst ea_)); subst ec_; clear en_))
                     have GB15 := Aside0.mk gb15
                     have GG15 := Aside0.mk HG15
                     clear gb15 gl15 HG15
                     have HMgo15 := Aside0.mk (show (P0_ go15 ∨ w.heap.size ≤ go15) from (HO_0.out.1 _ rfl))
                     (first | simp only [add_plain] at hx156_0 | skip)
                     (first | simp only [add_plain] at hx159_0 | skip)
                     obtain ⟨hx15_0, hf15_0⟩ := Kd.R_celln false HO_0.out ((ji12) : Int) p15 q15
                     replace p15 := eq_true p15
                     replace q15 := eq_true q15
                     have HP18 := Kd.R_putn HO_0.out ((ji12) : Int) (!(rdOf false x0_2 (ji12)))
                     rw [← Ny160.out] at HP18
                     have HQ18 := Aside0.mk HP18
                     clear HP18
                     refine start_ (n := 19) (S := fun w' => w'.cell? (ad157.add (x5_2).toNat) = some (.int .i64 (rd t150 x5_2)) ∧ w'.cell? (ad157.add (x5_2).toNat) = some (.int .i64 (rd t150 x5_2)) ∧ w'.cell? ⟨go15, ((ji12)).toNat, none⟩ = some (.bool (rdOf false x0_2 (ji12)))) (ds := [18]) #[false, false, false, false, false, false, false, false, false, false, false, false, false, false, false, false, false, false, false] (by kernel_rfl) rfl rfl ⟨hx157_0, hx158_0, hx159_0⟩ (fun hHeld => ?_); refine with_tabW keepsakeref01_left.tab9 keepsakeref01_left.bits9 (fun HT_ HW_ => ?_)
                     generalize wr.drew = w17 at HO_0 HO_3 HK HB GG15 HQ18 hf15_0 hx157_0 hx158_0 hx159_0 hx15_0 hHeld ⊢
                     refine pure_ (i := 0) (N := some 24) (v := ?_) (a' := ?_) #[true, false, false, false, false, false, false, false, false, false, false, false, false, false, false, false, false, false, false] rfl rfl (any_of HT_.out (by kernel_rfl)) (fun _ _ _ h => h) (Or.inl ⟨by rfl, ?_⟩) ?_ ?_
                     rotate_left
                     · intro w'
                       go_simp
                       with_reducible rfl
                     rotate_left
                     · simp only [Act.put, List.setIfInBounds_toArray, List.set_cons_zero, List.set_cons_succ, i64_w, i32_w]
                       rfl
                     refine pure_ (i := 1) (N := some 25) (v := ?_) (a' := ?_) #[true, true, false, false, false, false, false, false, false, false, false, false, false, false, false, false, false, false, false] rfl rfl (any_of HT_.out (by kernel_rfl)) (fun _ _ _ h => h) (Or.inl ⟨by rfl, ?_⟩) ?_ ?_
                     rotate_left
                     · intro w'
                       go_simp
                       with_reducible rfl
                     rotate_left
                     · simp only [Act.put, List.setIfInBounds_toArray, List.set_cons_zero, List.set_cons_succ, i64_w, i32_w]
                       rfl
                     refine pure_ (i := 2) (N := some 26) (v := ?_) (a' := ?_) #[true, true, true, false, false, false, false, false, false, false, false, false, false, false, false, false, false, false, false] rfl rfl (any_of HT_.out (by kernel_rfl)) (fun _ _ _ h => h) (Or.inl ⟨by rfl, ?_⟩) ?_ ?_
                     rotate_left
                     · intro w'
                       go_simp
                       with_reducible rfl
                     rotate_left
                     · simp only [Act.put, List.setIfInBounds_toArray, List.set_cons_zero, List.set_cons_succ, i64_w, i32_w]
                       rfl
                     refine pure_ (i := 3) (N := some 27) (v := ?_) (a' := ?_) #[true, true, true, true, false, false, false, false, false, false, false, false, false, false, false, false, false, false, false] rfl rfl (any_of HT_.out (by kernel_rfl)) (fun _ _ _ h => h) (Or.inl ⟨by rfl, ?_⟩) ?_ ?_
                     rotate_left
                     · intro w'
                       go_simp
                       with_reducible rfl
                     rotate_left
                     · simp only [Act.put, List.setIfInBounds_toArray, List.set_cons_zero, List.set_cons_succ, i64_w, i32_w]
                       rfl
                     refine pure_ (i := 4) (N := some 28) (v := ?_) (a' := ?_) #[true, true, true, true, true, false, false, false, false, false, false, false, false, false, false, false, false, false, false] rfl rfl (any_of HT_.out (by kernel_rfl)) (fun _ _ _ h => h) (Or.inl ⟨by rfl, ?_⟩) ?_ ?_
                     rotate_left
                     · intro w'
                       go_simp
                       with_reducible rfl
                     rotate_left
                     · simp only [Act.put, List.setIfInBounds_toArray, List.set_cons_zero, List.set_cons_succ, i64_w, i32_w]
                       rfl
                     refine pure_ (i := 7) (N := some 31) (v := ?_) (a' := ?_) #[true, true, true, true, true, false, false, true, false, false, false, false, false, false, false, false, false, false, false] rfl rfl (any_of HT_.out (by kernel_rfl)) (fun _ _ _ h => h) (Or.inl ⟨by rfl, ?_⟩) ?_ ?_
                     rotate_left
                     · intro w'
                       go_simp
                       with_reducible rfl
                     rotate_left
                     · simp only [Act.put, List.setIfInBounds_toArray, List.set_cons_zero, List.set_cons_succ, i64_w, i32_w]
                       rfl
                     refine pure_ (i := 8) (N := some 32) (v := ?_) (a' := ?_) #[true, true, true, true, true, false, false, true, true, false, false, false, false, false, false, false, false, false, false] rfl rfl (any_of HT_.out (by kernel_rfl)) (fun _ _ _ h => h) (Or.inl ⟨by rfl, ?_⟩) ?_ ?_
                     rotate_left
                     · intro w'
                       go_simp
                       with_reducible rfl
                     rotate_left
                     · simp only [Act.put, List.setIfInBounds_toArray, List.set_cons_zero, List.set_cons_succ, i64_w, i32_w]
                       rfl
                     refine pure_ (i := 9) (N := some 33) (v := ?_) (a' := ?_) #[true, true, true, true, true, false, false, true, true, true, false, false, false, false, false, false, false, false, false] rfl rfl (any_of HT_.out (by kernel_rfl)) (fun _ _ _ h => h) (Or.inl ⟨by rfl, ?_⟩) ?_ ?_
                     rotate_left
                     · intro w'
                       go_simp
                       with_reducible rfl
                     rotate_left
                     · simp only [Act.put, List.setIfInBounds_toArray, List.set_cons_zero, List.set_cons_succ, i64_w, i32_w]
                       rfl
                     refine pure_ (i := 10) (N := some 34) (v := ?_) (a' := ?_) #[true, true, true, true, true, false, false, true, true, true, true, false, false, false, false, false, false, false, false] rfl rfl (any_of HT_.out (by kernel_rfl)) (fun _ _ _ h => h) (Or.inl ⟨by rfl, ?_⟩) ?_ ?_
                     rotate_left
                     · intro w'
                       go_simp
                       with_reducible rfl
                     rotate_left
                     · simp only [Act.put, List.setIfInBounds_toArray, List.set_cons_zero, List.set_cons_succ, i64_w, i32_w]
                       rfl
                     refine pure_ (i := 11) (N := some 35) (v := ?_) (a' := ?_) #[true, true, true, true, true, false, false, true, true, true, true, true, false, false, false, false, false, false, false] rfl rfl (any_of HT_.out (by kernel_rfl)) (fun _ _ _ h => h) (Or.inl ⟨by rfl, ?_⟩) ?_ ?_
                     rotate_left
                     · intro w'
                       go_simp
                       with_reducible rfl
                     rotate_left
                     · simp only [Act.put, List.setIfInBounds_toArray, List.set_cons_zero, List.set_cons_succ, i64_w, i32_w]
                       rfl
                     refine take_ (i := 5) (N := some 29) (v := ?_) (a' := ?_) #[true, true, true, true, true, true, false, true, true, true, true, true, false, false, false, false, false, false, false] rfl rfl (take_ofW HT_.out HW_.out (by kernel_rfl)) (fun _ _ _ h => h) (Or.inl ⟨by rfl, ?_⟩) hHeld ?_ ?_
                     rotate_left
                     · rintro w' ⟨s0, s1, s2⟩
                       go_simp
                       with_reducible rfl
                     rotate_left
                     · simp only [Act.put, List.setIfInBounds_toArray, List.set_cons_zero, List.set_cons_succ, i64_w, i32_w]
                       rfl
                     refine pure_ (i := 6) (N := some 30) (v := ?_) (a' := ?_) #[true, true, true, true, true, true, true, true, true, true, true, true, false, false, false, false, false, false, false] rfl rfl (any_of HT_.out (by kernel_rfl)) (fun _ _ _ h => h) (Or.inl ⟨by rfl, ?_⟩) ?_ ?_
                     rotate_left
                     · intro w'
                       go_simp
                       with_reducible rfl
                     rotate_left
                     · simp only [Act.put, List.setIfInBounds_toArray, List.set_cons_zero, List.set_cons_succ, i64_w, i32_w]
                       rfl
                     refine take_ (i := 12) (N := some 36) (v := ?_) (a' := ?_) #[true, true, true, true, true, true, true, true, true, true, true, true, true, false, false, false, false, false, false] rfl rfl (take_ofW HT_.out HW_.out (by kernel_rfl)) (fun _ _ _ h => h) (Or.inl ⟨by rfl, ?_⟩) hHeld ?_ ?_
                     rotate_left
                     · rintro w' ⟨s0, s1, s2⟩
                       go_simp
                       with_reducible rfl
                     rotate_left
                     · simp only [Act.put, List.setIfInBounds_toArray, List.set_cons_zero, List.set_cons_succ, i64_w, i32_w]
                       rfl
                     refine pure_ (i := 13) (N := some 37) (v := ?_) (a' := ?_) #[true, true, true, true, true, true, true, true, true, true, true, true, true, true, false, false, false, false, false] rfl rfl (any_of HT_.out (by kernel_rfl)) (fun _ _ _ h => h) (Or.inl ⟨by rfl, ?_⟩) ?_ ?_
                     rotate_left
                     · intro w'
                       go_simp
                       with_reducible rfl
                     rotate_left
                     · simp only [Act.put, List.setIfInBounds_toArray, List.set_cons_zero, List.set_cons_succ, i64_w, i32_w]
                       rfl
                     refine pure_ (i := 14) (N := some 38) (v := ?_) (a' := ?_) #[true, true, true, true, true, true, true, true, true, true, true, true, true, true, true, false, false, false, false] rfl rfl (any_of HT_.out (by kernel_rfl)) (fun _ _ _ h => h) (Or.inl ⟨by rfl, ?_⟩) ?_ ?_
                     rotate_left
                     · intro w'
                       go_simp
                       with_reducible rfl
                     rotate_left
                     · simp only [Act.put, List.setIfInBounds_toArray, List.set_cons_zero, List.set_cons_succ, i64_w, i32_w]
                       rfl
                     refine take_ (i := 15) (N := some 39) (v := ?_) (a' := ?_) #[true, true, true, true, true, true, true, true, true, true, true, true, true, true, true, true, false, false, false] rfl rfl (take_ofW HT_.out HW_.out (by kernel_rfl)) (fun _ _ _ h => h) (Or.inl ⟨by rfl, ?_⟩) hHeld ?_ ?_
                     rotate_left
                     · rintro w' ⟨s0, s1, s2⟩
                       go_simp
                       with_reducible rfl
                     rotate_left
                     · simp only [Act.put, List.setIfInBounds_toArray, List.set_cons_zero, List.set_cons_succ, i64_w, i32_w]
                       rfl
                     refine pure_ (i := 16) (N := some 40) (v := ?_) (a' := ?_) #[true, true, true, true, true, true, true, true, true, true, true, true, true, true, true, true, true, false, false] rfl rfl (any_of HT_.out (by kernel_rfl)) (fun _ _ _ h => h) (Or.inl ⟨by rfl, ?_⟩) ?_ ?_
                     rotate_left
                     · intro w'
                       go_simp
                       with_reducible rfl
                     rotate_left
                     · simp only [Act.put, List.setIfInBounds_toArray, List.set_cons_zero, List.set_cons_succ, i64_w, i32_w]
                       rfl
                     refine pure_ (i := 17) (N := some 41) (v := ?_) (a' := ?_) #[true, true, true, true, true, true, true, true, true, true, true, true, true, true, true, true, true, true, false] rfl rfl (any_of HT_.out (by kernel_rfl)) (fun _ _ _ h => h) (Or.inl ⟨by rfl, ?_⟩) ?_ ?_
                     rotate_left
                     · intro w'
                       go_simp
                       with_reducible rfl
                     rotate_left
                     · simp only [Act.put, List.setIfInBounds_toArray, List.set_cons_zero, List.set_cons_succ, i64_w, i32_w]
                       rfl
                     refine last_ (i := 18) (N := none) #[true, true, true, true, true, true, true, true, true, true, true, true, true, true, true, true, true, true, true] rfl rfl (one_of HT_.out (by kernel_rfl)) (by decide) (fun K hK => ?_)
                     refine skip_ (w1 := ?_) (by rfl) rfl ?_ ?_
                     rotate_left
                     · go_simp
                       rfl
                     refine hK.out _ _ ?_
                     clear hK K
                     refine done_ (done_of HT_.out (by kernel_rfl)) ?_
                     try go_wp2
                     (try simp only [← hl0_2])
                     go_roundg k2
                     case measure => have := HK1.out; have := HK2.out; omega
                     case rel => exact ⟨(y160), (wrap64 (x5_2 + 1)), (by first | rfl | (simp; done) | (simp [*]; done) | (simp; omega)), H', ⟨by have := HK1.out; have := HK2.out; omega⟩, ⟨by (try simp only [hl0_2]); (with_reducible repeat (first | apply Kd.R_alloc | apply Kd.R_drewN | apply Kd.R_drew)); exact HQ18.out⟩, ⟨by (try simp only [hl0_2]); (with_reducible repeat (first | apply Kd.R_alloc | apply Kd.R_drewN | apply Kd.R_drew)); exact Kd.R_mono (Kd.R_far (p := ⟨go15, ((ji12) : Int).toNat, none⟩) (Kd.R_types HO_3.out GG15.out (by decide)) (fun _ hk => hk.2) (.bool (!(rdOf false x0_2 (ji12))))) (fun _ hk => hk.1)⟩, ⟨by repeat (first | (with_reducible first | exact HK.out | apply Kept.alloc | apply Kept.drewN | apply Kept.drew | refine Kept.setCell ?_ HMgo15.out _) | exact HK.out)⟩, ⟨by repeat (first | (with_reducible first | exact HB.out | apply below_alloc | apply pw_below_drewN | apply below_drew1 | refine below_set ?_ GB15.out) | exact HB.out)⟩⟩
                   · rw [if_neg c14] at H
                     exact absurd H (by simp)
                 · rw [if_neg c13] at H
                   exact absurd H (by simp)
               · rw [if_neg c11] at H
                 exact absurd H (by simp)
             · rw [if_neg c10] at H
               have c10b0 : decide (x5_2 < (t150.length : Int)) = false := decide_eq_false c10
               clear c10
               have H' := Aside0.mk H
               clear H
               obtain ⟨Ao19, co19, eo19⟩ := Kd.R_slice HO_3.out
               subst eo19
               go_wp2
               (try simp only [← hl0_2])
               go_roundg k2
               case measure => have := HK1.out; have := HK2.out; omega
               case rel => exact ⟨(x0_2), (wrap64 (x4_1 + 1)), (by first | rfl | (simp; done) | (simp [*]; done) | (simp; omega)), H', ⟨by have := HK1.out; have := HK2.out; omega⟩, ⟨by (try simp only [hl0_2]); (with_reducible repeat (first | apply Kd.R_alloc | apply Kd.R_drewN | apply Kd.R_drew)); exact HO_0.out⟩, ⟨by (try simp only [hl0_2]); (with_reducible repeat (first | apply Kd.R_alloc | apply Kd.R_drewN | apply Kd.R_drew)); exact HO_3.out⟩, ⟨by repeat (first | (with_reducible first | exact HK.out | apply Kept.alloc | apply Kept.drewN | apply Kept.drew) | exact HK.out)⟩, ⟨by repeat (first | (with_reducible first | exact HB.out | apply below_alloc | apply pw_below_drewN | apply below_drew1) | exact HB.out)⟩⟩
         · replace c8 := Bool.eq_false_iff.mpr c8
           subst c8
           have H1 : (keepsakeref01_left.l0 k1 x0_1 t150 (wrap64 (x4_1 + 1))) = some r := by rw [if_neg (show ¬ (false = true) by decide)] at H; exact H
           clear H
           have H := H1
           clear H1
           have H' := Aside0.mk H
           clear H
           obtain ⟨Ao20, co20, eo20⟩ := Kd.R_slice HO_0.out
           subst eo20
           have p156 : 0 ≤ (x4_1 : Int) := of_decide_eq_true (by first | (with_reducible assumption) | assumption)
           have q156 : x4_1 < (x0_1.length : Int) := of_decide_eq_true (by first | (with_reducible assumption) | assumption)
           obtain ⟨ad156, e156, hx156_0⟩ := Kd.at_bool (Kd.R_reads' HO_0.out).2.2 x4_1 p156 q156
           (try rw [← Nbq7.out] at hx156_0)
           cases e156
           replace p156 := eq_true p156
           replace q156 := eq_true q156
           go_wp2
           go_roundg k1
           case measure => have := HK1.out; omega
           case rel => exact ⟨(x0_1), (wrap64 (x4_1 + 1)), (by first | rfl | (simp; done) | (simp [*]; done) | (simp; omega)), H', ⟨by have := HK1.out; omega⟩, ⟨by (with_reducible repeat (first | apply Kd.R_alloc | apply Kd.R_drewN | apply Kd.R_drew)); exact HO_0.out⟩, ⟨by (with_reducible repeat (first | apply Kd.R_alloc | apply Kd.R_drewN | apply Kd.R_drew)); exact HO_3.out⟩, ⟨by repeat (first | (with_reducible first | exact HK.out | apply Kept.alloc | apply Kept.drewN | apply Kept.drew) | exact HK.out)⟩, ⟨by repeat (first | (with_reducible first | exact HB.out | apply below_alloc | apply pw_below_drewN | apply below_drew1) | exact HB.out)⟩⟩
       · rw [if_neg c6] at H
         exact absurd H (by simp)
     · rw [if_neg c5] at H
       exact absurd H (by simp)
   · rw [if_neg c4] at H
     have c4b0 : decide ((wrap64 (x4_1 + 32)) < (x0_1.length : Int)) = false := decide_eq_false c4
     clear c4
     obtain ⟨ji21, hji21⟩ : ∃ j_ : Int, (wrap64 ((x0_1.length : Int) - 32)) = j_ := ⟨_, rfl⟩
     replace H : (if 0 ≤ (ji21) then (if (ji21) ≤ (x0_1.length : Int) then (some (x0_1.drop ((ji21) : Int).toNat)) else (none)) else (none)) = some r := by first | (rw [hji21] at H; exact H) | (simp only [hji21] at H ⊢; exact H)
     have hji21w : (IntKind.i64.wrap ((x0_1.length : Int) - 32)) = ji21 := (i64_w _).trans hji21
     by_cases c22 : 0 ≤ (ji21)
     · rw [if_pos c22] at H
       have c22b0 := eq_true c22
       have c22b1 : decide (0 ≤ (ji21)) = true := decide_eq_true c22
       clear c22
       by_cases c23 : (ji21) ≤ (x0_1.length : Int)
       · rw [if_pos c23] at H
         have c23b0 := eq_true c23
         have c23b1 : decide ((ji21) ≤ (x0_1.length : Int)) = true := decide_eq_true c23
         clear c23
         obtain ⟨y153, hy153⟩ : ∃ y_ : List Bool, y_ = (x0_1.drop ((ji21) : Int).toNat) := ⟨_, rfl⟩
         replace H : (some y153) = some r := by first | (rw [hy153]; with_reducible exact H) | (have H2_ := (Option.bind_some _ _).symm.trans H; rw [hy153]; with_reducible exact H2_) | (have H2_ := (Option.bind_some _ _).symm.trans H; with_reducible exact H2_) | with_reducible exact H | (rw [hy153]; exact H) | exact H
         have Ny153 := Aside0.mk hy153
         clear hy153
         obtain rfl := Option.some.inj H
         obtain ⟨Ao24, co24, eo24⟩ := Kd.R_slice HO_0.out
         subst eo24
         have q25 : ((ji21) : Int) ≤ ((x0_1.length : Int) : Int) := of_decide_eq_true (by first | (with_reducible assumption) | assumption)
         obtain ⟨i025, hi025, _, hsz25, _⟩ := info_parts info4
         have hcut25 := cut_from (P := Try.prog) 56 4 .i64 Try.underlying56 hi025 1 hsz25 Ao24 x0_1.length co24 (ji21) (of_decide_eq_true (by first | (with_reducible assumption) | assumption)) q25
         have hr25 := Kd.Q_drop (k := ((ji21) : Int).toNat) (Kd.Q_of_R HO_0.out) (by omega)
         obtain ⟨A25, hA25⟩ : ∃ A1, A1 = (if co24 = ((ji21) : Int).toNat then Ao24 else (Ao24 : Option Addr).map (·.add (((ji21) : Int).toNat * 1))) := ⟨_, rfl⟩
         obtain ⟨c25, hc25⟩ : ∃ c1, c1 = co24 - ((ji21) : Int).toNat := ⟨_, rfl⟩
         have hy25 : y153.length = x0_1.length - ((ji21) : Int).toNat := (by rw [Ny153.out, List.length_drop])
         rw [← Ny153.out] at hr25
         rw [← hy25, ← hA25, ← hc25] at hcut25
         replace hr25 : Kd.Q Kd.bool 4 wr w0.heap.size (fun k_ => (P0_ k_ ∨ w.heap.size ≤ k_)) (.slice A25 y153.length c25) y153 := (by rw [hA25, hc25, hy25]; exact hr25)
         have HE25 : Aside0 ((Value.slice A25 y153.length c25).ownBlock = (.slice Ao24 x0_1.length co24 : Value).ownBlock) := ⟨by rw [hA25]; split <;> (cases (Ao24 : Option Addr) <;> first | rfl | (simp only [Option.map_some, Value.ownBlock, Addr.add]; split <;> rfl))⟩
         clear hy25 hi025 hsz25 HO_0 hA25 hc25
         have HO155 := Aside0.mk hr25
         clear hr25
         replace q25 := eq_true q25
         go_wp2
         go_ret
         exact ⟨_, by first | rfl | (simp [errW_none, errW_some] <;> rfl) | (simp only [← hji21]; first | rfl | (simp [errW_none, errW_some] <;> rfl)) | (simp [*, errW_none, errW_some] <;> rfl), by (with_reducible repeat (first | apply Kd.Q_alloc | apply Kd.Q_drewN | apply Kd.Q_drew)); exact HO155.out, by repeat (first | (with_reducible first | exact HB.out | apply below_alloc | apply pw_below_drewN | apply below_drew1) | exact HB.out), by repeat (first | (with_reducible first | exact HK.out | apply Kept.alloc | apply Kept.drewN | apply Kept.drew) | exact HK.out)⟩
       · rw [if_neg c23] at H
         exact absurd H (by simp)
     · rw [if_neg c22] at H
       exact absurd H (by simp)

/-! ### keepsakeref01_word: function 34 -/
def keepsakeref01_word.l0 : Nat → List Bool → Int → Int → Option (Int)
 | 0, _, _, _ => none
 | k + 1, x0, x3, x4 => if x4 ≥ 0 then (if 0 ≤ x4 then (if x4 < (x0.length : Int) then (if rdOf false x0 x4 = true then (keepsakeref01_word.l0 k x0 ((((2 * x3) % 4294967296) + 1) % 4294967296) (wrap64 (x4 - 1))) else (keepsakeref01_word.l0 k x0 ((2 * x3) % 4294967296) (wrap64 (x4 - 1)))) else (none)) else (none)) else (some x3)
def keepsakeref01_word.f (k : Nat) (l0 : List Bool) : Option (Int) := keepsakeref01_word.l0 k l0 0 31
theorem keepsakeref01_word.mono_l : ∀ k, (∀ y0 y1 y2, LeO (keepsakeref01_word.l0 k y0 y1 y2) (keepsakeref01_word.l0 (k + 1) y0 y1 y2))
 | 0 => fun _ _ _ r h => by simp [keepsakeref01_word.l0] at h
 | k + 1 => by
  have ih0 := keepsakeref01_word.mono_l k
  · intro y0 y1 y2
    unfold keepsakeref01_word.l0
    repeat' first
    | (with_reducible exact ih0 _ _ _)
    | (with_reducible exact LeO.refl _)
    | (with_reducible exact LeO.none _)
    | (with_reducible refine LeO.ite ?_ ?_)
    | (with_reducible refine LeO.bind ?_ (fun _ => ?_))
    | exact ih0 _ _ _
    | exact LeO.none _
    | refine LeO.ite ?_ ?_
    | refine LeO.bind ?_ (fun _ => ?_)
theorem keepsakeref01_word.mono : ∀ a0 k, LeO (keepsakeref01_word.f k a0) (keepsakeref01_word.f (k + 1) a0) := by
 intro a0 k
 have ih0 := keepsakeref01_word.mono_l k
 unfold keepsakeref01_word.f
 repeat' first
  | (with_reducible exact ih0 _ _ _)
  | (with_reducible exact LeO.refl _)
  | (with_reducible exact LeO.none _)
  | (with_reducible refine LeO.ite ?_ ?_)
  | (with_reducible refine LeO.bind ?_ (fun _ => ?_))
  | exact ih0 _ _ _
  | exact LeO.none _
  | refine LeO.ite ?_ ?_
  | refine LeO.bind ?_ (fun _ => ?_)
set_option maxHeartbeats 8000000 in
set_option maxRecDepth 100000 in
theorem keepsakeref01_word.calls (k : Nat) (A0 : Option Addr) (c0 : Nat) (l0 : List Bool) (r : Int) (w : World) (hr0 : Kd.C Kd.bool w A0 l0.length l0) (hc0 : l0.length ≤ c0) (h : keepsakeref01_word.f k l0 = some r) :
 Calls Try.prog 34 #[.slice A0 l0.length c0] w fun e w' => e = .returned (.int .u32 r) ∧ Drawn0 w w' := by
 have HR0 := Aside0.mk hr0
 have HC0 := Aside0.mk hc0
 clear hr0 hc0
 have H : (keepsakeref01_word.l0 k l0 0 31) = some r := h
 clear h
 have H' := Aside0.mk H
 clear H
 go_enter Try.func34, Try.ntmps34
 go_wp2
 go_loopg [3, 4] k (fun kq v3 v4 w' => ∃ (x3_1 : Int) (x4_1 : Int), v3 = .int .u32 x3_1 ∧ v4 = .int .i64 x4_1 ∧ Aside0 (keepsakeref01_word.l0 kq l0 x3_1 x4_1 = some r) ∧ Aside0 (kq ≤ k) ∧ Drawn0 w w')
 case atStart => exact ⟨(0), (31), (by first | rfl | (simp; done) | (simp [*]; done) | (simp; omega)), (by first | rfl | (simp; done) | (simp [*]; done) | (simp; omega)), H', ⟨Nat.le_refl _⟩, by repeat (first | exact Drawn0.refl _ | apply Drawn0.step)⟩
 case round =>
  clear H'
  obtain ⟨x3_1, x4_1, rfl, rfl, HA, HK1, ⟨m1, rfl⟩⟩ := hrel
  cases gk with
  | zero => exact absurd HA.out (by simp [keepsakeref01_word.l0])
  | succ k1 =>
   have H := HA.out
   clear HA
   simp only [keepsakeref01_word.l0] at H
   by_cases c2 : x4_1 ≥ 0
   · rw [if_pos c2] at H
     have c2b0 : decide (0 ≤ x4_1) = true := decide_eq_true c2
     clear c2
     by_cases c3 : 0 ≤ x4_1
     · rw [if_pos c3] at H
       have c3b0 : decide (0 ≤ x4_1) = true := decide_eq_true c3
       clear c3
       by_cases c4 : x4_1 < (l0.length : Int)
       · rw [if_pos c4] at H
         have c4b0 : decide (x4_1 < (l0.length : Int)) = true := decide_eq_true c4
         clear c4
         obtain ⟨bq5, hbq5⟩ : ∃ b_ : Bool, b_ = (rdOf false l0 x4_1) := ⟨_, rfl⟩
         replace H : (if bq5 = true then (keepsakeref01_word.l0 k1 l0 ((((2 * x3_1) % 4294967296) + 1) % 4294967296) (wrap64 (x4_1 - 1))) else (keepsakeref01_word.l0 k1 l0 ((2 * x3_1) % 4294967296) (wrap64 (x4_1 - 1)))) = some r := by rw [← hbq5] at H; exact H
         have Nbq5 := Aside0.mk hbq5
         clear hbq5
         by_cases c6 : bq5 = true
         · subst c6
           have H1 : (keepsakeref01_word.l0 k1 l0 ((((2 * x3_1) % 4294967296) + 1) % 4294967296) (wrap64 (x4_1 - 1))) = some r := by rw [if_pos rfl] at H; exact H
           clear H
           have H := H1
           clear H1
           have H' := Aside0.mk H
           clear H
           have p161 : 0 ≤ (x4_1 : Int) := of_decide_eq_true (by first | (with_reducible assumption) | assumption)
           have q161 : x4_1 < (l0.length : Int) := of_decide_eq_true (by first | (with_reducible assumption) | assumption)
           obtain ⟨ad161, e161, hx161_0⟩ := Kd.at_bool HR0.out x4_1 p161 q161
           (try rw [← Nbq5.out] at hx161_0)
           cases e161
           replace p161 := eq_true p161
           replace q161 := eq_true q161
           go_wp2
           go_roundg k1
           case measure => have := HK1.out; omega
           case rel => exact ⟨((((2 * x3_1) % 4294967296) + 1) % 4294967296), (wrap64 (x4_1 - 1)), (by first | rfl | (simp; done) | (simp [*]; done) | (simp; omega)), (by first | rfl | (simp; done) | (simp [*]; done) | (simp; omega)), H', ⟨by have := HK1.out; omega⟩, by repeat (first | exact Drawn0.refl _ | apply Drawn0.step)⟩
         · replace c6 := Bool.eq_false_iff.mpr c6
           subst c6
           have H1 : (keepsakeref01_word.l0 k1 l0 ((2 * x3_1) % 4294967296) (wrap64 (x4_1 - 1))) = some r := by rw [if_neg (show ¬ (false = true) by decide)] at H; exact H
           clear H
           have H := H1
           clear H1
           have H' := Aside0.mk H
           clear H
           have p161 : 0 ≤ (x4_1 : Int) := of_decide_eq_true (by first | (with_reducible assumption) | assumption)
           have q161 : x4_1 < (l0.length : Int) := of_decide_eq_true (by first | (with_reducible assumption) | assumption)
           obtain ⟨ad161, e161, hx161_0⟩ := Kd.at_bool HR0.out x4_1 p161 q161
           (try rw [← Nbq5.out] at hx161_0)
           cases e161
           replace p161 := eq_true p161
           replace q161 := eq_true q161
           go_wp2
           go_roundg k1
           case measure => have := HK1.out; omega
           case rel => exact ⟨((2 * x3_1) % 4294967296), (wrap64 (x4_1 - 1)), (by first | rfl | (simp; done) | (simp [*]; done) | (simp; omega)), (by first | rfl | (simp; done) | (simp [*]; done) | (simp; omega)), H', ⟨by have := HK1.out; omega⟩, by repeat (first | exact Drawn0.refl _ | apply Drawn0.step)⟩
       · rw [if_neg c4] at H
         exact absurd H (by simp)
     · rw [if_neg c3] at H
       exact absurd H (by simp)
   · rw [if_neg c2] at H
     have c2b0 : decide (0 ≤ x4_1) = false := decide_eq_false c2
     clear c2
     obtain rfl := Option.some.inj H
     go_wp2
     go_ret
     exact ⟨by first | rfl | (simp; done) | (simp [*]; done), by repeat (first | exact Drawn0.refl _ | apply Drawn0.step)⟩

/-! ### keepsakeref01_Sum: function 26 -/
mutual
def keepsakeref01_Sum.l0 : Nat → List Bool → Int → Option (Int)
 | 0, _, _ => none
 | k + 1, x3, x4 => if x4 < 32 then (if 0 ≤ x4 then (if x4 < (x3.length : Int) then (keepsakeref01_Sum.l0 k (x3.set (x4 : Int).toNat (!(rdOf false x3 x4))) (wrap64 (x4 + 1))) else (none)) else (none)) else ((keepsakeref01_left.f k x3).bind fun t170 => (keepsakeref01_Sum.l1 k t170 0))
def keepsakeref01_Sum.l1 : Nat → List Bool → Int → Option (Int)
 | 0, _, _ => none
 | k + 1, x5, x6 => if x6 < 32 then (if 0 ≤ x6 then (if x6 < (x5.length : Int) then (keepsakeref01_Sum.l1 k (x5.set (x6 : Int).toNat (!(rdOf false x5 x6))) (wrap64 (x6 + 1))) else (none)) else (none)) else ((keepsakeref01_word.f k x5).bind fun t175 => (some t175))
end
def keepsakeref01_Sum.f (k : Nat) (l0 : List Int) : Option (Int) := (keepsakeref01_Bits.f k l0).bind fun t162 => (if t162.length + 32 < 140737488355328 then (keepsakeref01_Sum.l0 k (t162 ++ List.replicate 32 false) 0) else (none))
theorem keepsakeref01_Sum.mono_l : ∀ k, (∀ y0 y1, LeO (keepsakeref01_Sum.l0 k y0 y1) (keepsakeref01_Sum.l0 (k + 1) y0 y1)) ∧ (∀ y0 y1, LeO (keepsakeref01_Sum.l1 k y0 y1) (keepsakeref01_Sum.l1 (k + 1) y0 y1))
 | 0 => ⟨fun _ _ r h => by simp [keepsakeref01_Sum.l0] at h, fun _ _ r h => by simp [keepsakeref01_Sum.l1] at h⟩
 | k + 1 => by
  obtain ⟨ih0, ih1⟩ := keepsakeref01_Sum.mono_l k
  refine ⟨?_, ?_⟩
  · intro y0 y1
    unfold keepsakeref01_Sum.l0
    repeat' first
    | (with_reducible exact ih0 _ _)
    | (with_reducible exact ih1 _ _)
    | (with_reducible exact keepsakeref01_Bits.mono _ _)
    | (with_reducible exact keepsakeref01_left.mono _ _)
    | (with_reducible exact keepsakeref01_word.mono _ _)
    | (with_reducible exact LeO.refl _)
    | (with_reducible exact LeO.none _)
    | (with_reducible refine LeO.ite ?_ ?_)
    | (with_reducible refine LeO.bind ?_ (fun _ => ?_))
    | exact ih0 _ _
    | exact ih1 _ _
    | exact keepsakeref01_Bits.mono _ _
    | exact keepsakeref01_left.mono _ _
    | exact keepsakeref01_word.mono _ _
    | exact LeO.none _
    | refine LeO.ite ?_ ?_
    | refine LeO.bind ?_ (fun _ => ?_)
  · intro y0 y1
    unfold keepsakeref01_Sum.l1
    repeat' first
    | (with_reducible exact ih0 _ _)
    | (with_reducible exact ih1 _ _)
    | (with_reducible exact keepsakeref01_Bits.mono _ _)
    | (with_reducible exact keepsakeref01_left.mono _ _)
    | (with_reducible exact keepsakeref01_word.mono _ _)
    | (with_reducible exact LeO.refl _)
    | (with_reducible exact LeO.none _)
    | (with_reducible refine LeO.ite ?_ ?_)
    | (with_reducible refine LeO.bind ?_ (fun _ => ?_))
    | exact ih0 _ _
    | exact ih1 _ _
    | exact keepsakeref01_Bits.mono _ _
    | exact keepsakeref01_left.mono _ _
    | exact keepsakeref01_word.mono _ _
    | exact LeO.none _
    | refine LeO.ite ?_ ?_
    | refine LeO.bind ?_ (fun _ => ?_)
theorem keepsakeref01_Sum.mono : ∀ a0 k, LeO (keepsakeref01_Sum.f k a0) (keepsakeref01_Sum.f (k + 1) a0) := by
 intro a0 k
 obtain ⟨ih0, ih1⟩ := keepsakeref01_Sum.mono_l k
 unfold keepsakeref01_Sum.f
 repeat' first
  | (with_reducible exact ih0 _ _)
  | (with_reducible exact ih1 _ _)
  | (with_reducible exact keepsakeref01_Bits.mono _ _)
  | (with_reducible exact keepsakeref01_left.mono _ _)
  | (with_reducible exact keepsakeref01_word.mono _ _)
  | (with_reducible exact LeO.refl _)
  | (with_reducible exact LeO.none _)
  | (with_reducible refine LeO.ite ?_ ?_)
  | (with_reducible refine LeO.bind ?_ (fun _ => ?_))
  | exact ih0 _ _
  | exact ih1 _ _
  | exact keepsakeref01_Bits.mono _ _
  | exact keepsakeref01_left.mono _ _
  | exact keepsakeref01_word.mono _ _
  | exact LeO.none _
  | refine LeO.ite ?_ ?_
  | refine LeO.bind ?_ (fun _ => ?_)
set_option maxHeartbeats 8000000 in
set_option maxRecDepth 100000 in
theorem keepsakeref01_Sum.calls (k : Nat) (A0 : Option Addr) (c0 : Nat) (l0 : List Int) (r : Int) (w : World) (hr0 : Kd.C (Kd.int .u8) w A0 l0.length l0) (hc0 : l0.length ≤ c0) (h : keepsakeref01_Sum.f k l0 = some r) :
 Calls Try.prog 26 #[.slice A0 l0.length c0] w fun e w' => e = .returned (.int .u32 r) ∧ Below w.heap.size w w' := by
 have HR0 := Aside0.mk hr0
 have HC0 := Aside0.mk hc0
 clear hr0 hc0
 have HB := Aside0.mk (Below.refl w.heap.size w)
 have H : ((keepsakeref01_Bits.f k l0).bind fun t162 => (if t162.length + 32 < 140737488355328 then (keepsakeref01_Sum.l0 k (t162 ++ List.replicate 32 false) 0) else (none))) = some r := h
 clear h
 replace H := Option.bind_eq_some_iff.mp H
 obtain ⟨t162, A20, H⟩ := H
 replace H : (if t162.length + 32 < 140737488355328 then (keepsakeref01_Sum.l0 k (t162 ++ List.replicate 32 false) 0) else (none)) = some r := H
 have A2 := Aside0.mk A20
 clear A20
 by_cases c3 : t162.length + 32 < 140737488355328
 · rw [if_pos c3] at H
   have LMc3 := Aside0.mk c3
   clear c3
   obtain ⟨y165, hy165⟩ : ∃ y_ : List Bool, y_ = (t162 ++ List.replicate 32 false) := ⟨_, rfl⟩
   replace H : (keepsakeref01_Sum.l0 k y165 0) = some r := by first | (rw [hy165]; with_reducible exact H) | (have H2_ := (Option.bind_some _ _).symm.trans H; rw [hy165]; with_reducible exact H2_) | (have H2_ := (Option.bind_some _ _).symm.trans H; with_reducible exact H2_) | with_reducible exact H | (rw [hy165]; exact H) | exact H
   have Ny165 := Aside0.mk hy165
   clear hy165
   have H' := Aside0.mk H
   clear H
   go_enter Try.func26, Try.ntmps26
   go_wp2_with (first | ((with_reducible refine gate_callee (f := 32) rfl ?_); refine goesL_ (some 8) rfl rfl Try.func32 (by kernel_rfl) rfl #[.slice A0 l0.length c0] rfl (by (try simp only [List.map_toArray, List.map_cons, List.map_nil]); first | done | rfl | (simp only [List.length_drop, List.length_take]; rfl)) ?_; (with_reducible refine (keepsakeref01_Bits.calls k _ _ l0 t162 _ ?side1 ?side2 A2.out).mono ?_); (case side1 => repeat (first | exact HR0.out | (with_reducible refine Kd.C_alloc ?_ _) | (with_reducible refine Kd.C_drewN ?_ _) | (with_reducible refine Kd.C_drew ?_))); (case side2 => exact HC0.out); rintro e w4 ⟨v163, rfl, ho0, hb⟩; refine ⟨_, rfl, ?_⟩; have n0_ := Aside0.mk (Kd.R_lower ho0 (below_size (by repeat (first | (with_reducible first | exact HB.out | apply below_alloc | apply pw_below_drewN | apply below_drew1) | exact HB.out)))); have n1_ := Aside0.mk (below_step (by repeat (first | (with_reducible first | exact HB.out | apply below_alloc | apply pw_below_drewN | apply below_drew1) | exact HB.out)) hb); clear HB; have HO164 := n0_; have HB := n1_; clear n0_ n1_; (try clear hb); (try clear hb2); (try clear hk); (try clear hi); (try clear ho0)) | (at_builtin; refine Kd.R_append_zeros Kd.bool (w0 := w) w.heap.size rfl (.tmp 8) (.const (.int .i64 32)) 56 3 4 (.bool false) 1 rfl Try.underlying56 Try.underlying3 info4 rfl (by decide) (by omega) v163 t162 false (32 : Int) (fun _ => True) rfl rfl rfl ?aF ?aO (by omega) ?aB ?aS ?aL ?_; (case aB => exact (by repeat (first | (with_reducible first | exact HB.out | apply below_alloc | apply pw_below_drewN | apply below_drew1) | exact HB.out))); (case aF => exact (fun _ _ => trivial)); (case aO => exact (by (with_reducible repeat (first | apply Kd.R_alloc | apply Kd.R_drewN | apply Kd.R_drew)); exact HO164.out)); (case aS => exact (below_size (by repeat (first | (with_reducible first | exact HB.out | apply below_alloc | apply pw_below_drewN | apply below_drew1) | exact HB.out)))); (case aL => have := LMc3.out; omega); intro v166 w5 ho hb hg hat; (first | rw [← Ny165.out] at ho | (simp only [Int.reduceToNat] at ho; rw [← Ny165.out] at ho)); have n0_ := Aside0.mk (hb); have n1_ := Aside0.mk (ho); clear HB; clear HO164; have HB := n0_; have HO167 := n1_; clear n0_ n1_; clear ho hb hg hat))
   go_loopg [4] k (fun kq v4 w' => ∃ (x3_1 : List Bool) (x4_1 : Int), v4 = .int .i64 x4_1 ∧ Aside0 (keepsakeref01_Sum.l0 kq x3_1 x4_1 = some r) ∧ Aside0 (kq ≤ k) ∧ Aside0 (Kd.R Kd.bool 4 w' w.heap.size (fun _ => True) v166 x3_1) ∧ Aside0 (Below w.heap.size w w'))
   case atStart => exact ⟨(y165), (0), (by first | rfl | (simp; done) | (simp [*]; done) | (simp; omega)), H', ⟨Nat.le_refl _⟩, ⟨by (with_reducible repeat (first | apply Kd.R_alloc | apply Kd.R_drewN | apply Kd.R_drew)); exact HO167.out⟩, ⟨by repeat (first | (with_reducible first | exact HB.out | apply below_alloc | apply pw_below_drewN | apply below_drew1) | exact HB.out)⟩⟩
   case round =>
    clear H'
    try clear c2
    try clear p2
    try clear c3
    obtain ⟨x3_1, x4_1, rfl, HA, HK1, HO_3, HB⟩ := hrel
    cases gk with
    | zero => exact absurd HA.out (by simp [keepsakeref01_Sum.l0])
    | succ k1 =>
     have H := HA.out
     clear HA
     simp only [keepsakeref01_Sum.l0] at H
     by_cases c6 : x4_1 < 32
     · rw [if_pos c6] at H
       have c6b0 : decide (x4_1 < 32) = true := decide_eq_true c6
       clear c6
       by_cases c7 : 0 ≤ x4_1
       · rw [if_pos c7] at H
         have c7b0 : decide (0 ≤ x4_1) = true := decide_eq_true c7
         clear c7
         by_cases c8 : x4_1 < (x3_1.length : Int)
         · rw [if_pos c8] at H
           have c8b0 : decide (x4_1 < (x3_1.length : Int)) = true := decide_eq_true c8
           clear c8
           obtain ⟨y169, hy169⟩ : ∃ y_ : List Bool, y_ = (x3_1.set (x4_1 : Int).toNat (!(rdOf false x3_1 x4_1))) := ⟨_, rfl⟩
           replace H : (keepsakeref01_Sum.l0 k1 y169 (wrap64 (x4_1 + 1))) = some r := by first | (rw [hy169]; with_reducible exact H) | (have H2_ := (Option.bind_some _ _).symm.trans H; rw [hy169]; with_reducible exact H2_) | (have H2_ := (Option.bind_some _ _).symm.trans H; with_reducible exact H2_) | with_reducible exact H | (rw [hy169]; exact H) | exact H
           have Ny169 := Aside0.mk hy169
           clear hy169
           have H' := Aside0.mk H
           clear H
           obtain ⟨Ao10, co10, eo10⟩ := Kd.R_slice HO_3.out
           subst eo10
           have p168 : 0 ≤ (x4_1 : Int) := of_decide_eq_true (by first | (with_reducible assumption) | assumption)
           have q168 : x4_1 < (x3_1.length : Int) := of_decide_eq_true (by first | (with_reducible assumption) | assumption)
           obtain ⟨ad168, e168, hx168_0⟩ := Kd.at_bool (Kd.R_reads' HO_3.out).2.2 x4_1 p168 q168
           cases e168
           replace p168 := eq_true p168
           replace q168 := eq_true q168
           have p9 : 0 ≤ (x4_1 : Int) := of_decide_eq_true (by first | (with_reducible assumption) | assumption)
           have q9 : (x4_1 : Int) < ((x3_1.length : Int) : Int) := of_decide_eq_true (by first | (with_reducible assumption) | assumption)
           obtain ⟨go9, co9, eo9, gb9, gl9, cl9, HG9⟩ := Kd.R_form HO_3.out (by omega)
           (first | cases eo9 | (injection eo9 with ea_ en_ ec_; (first | subst ea_ | (injection ea_ with ea_; subst ea_)); subst ec_; clear en_))
           have GB9 := Aside0.mk gb9
           have GG9 := Aside0.mk HG9
           clear gb9 gl9 HG9
           (first | simp only [add_plain] at hx168_0 | skip)
           obtain ⟨hx9_0, hf9_0⟩ := Kd.R_celln false HO_3.out (x4_1 : Int) p9 q9
           replace p9 := eq_true p9
           replace q9 := eq_true q9
           have HP11 := Kd.R_putg HO_3.out (x4_1 : Int) (!(rdOf false x3_1 x4_1))
           go_wp2_with (first | ((with_reducible refine gate_store (t := 4) (p := 21) rfl ?_); refine store_event (t := 4) (p := 21) (v := ?vo_w12) (w1 := (wr.setCell ⟨go9, (x4_1 : Int).toNat, none⟩ (.bool (!(rdOf false x3_1 x4_1))))) ?hg ?ho ?hn ?hr ?_; (case ho => rfl); (case hg => rfl); (case hn => rfl); (case hr => first | (go_simp; done) | (go_simp; rfl)); intro w12 hw; have hg : wr.grownBy w12 (some go9) := (by rw [hw]; exact HP11.2); have hp_ : Kd.R Kd.bool 4 w12 w.heap.size (fun _ => True) (.slice (some ⟨go9, 0, none⟩) x3_1.length co10) y169 := (by rw [hw, Ny169.out]; exact HP11.1); clear HP11; have n0_ := Aside0.mk (hp_); have n1_ := Aside0.mk ((by rw [hw]; exact below_set (HB.out) GB9.out : Below w.heap.size w w12)); clear HO_3; clear HB; have HO_3 := n0_; have HB := n1_; clear n0_ n1_; clear hg hw hp_))
           go_roundg k1
           case measure => have := HK1.out; omega
           case rel => exact ⟨(y169), (wrap64 (x4_1 + 1)), (by first | rfl | (simp; done) | (simp [*]; done) | (simp; omega)), H', ⟨by have := HK1.out; omega⟩, ⟨by (with_reducible repeat (first | apply Kd.R_alloc | apply Kd.R_drewN | apply Kd.R_drew)); exact HO_3.out⟩, ⟨by repeat (first | (with_reducible first | exact HB.out | apply below_alloc | apply pw_below_drewN | apply below_drew1) | exact HB.out)⟩⟩
         · rw [if_neg c8] at H
           exact absurd H (by simp)
       · rw [if_neg c7] at H
         exact absurd H (by simp)
     · rw [if_neg c6] at H
       have c6b0 : decide (x4_1 < 32) = false := decide_eq_false c6
       clear c6
       replace H := Option.bind_eq_some_iff.mp H
       obtain ⟨t170, A130, H⟩ := H
       replace H : (keepsakeref01_Sum.l1 k1 t170 0) = some r := H
       have A13 := Aside0.mk A130
       clear A130
       have H' := Aside0.mk H
       clear H
       obtain ⟨Ao14, co14, eo14⟩ := Kd.R_slice HO_3.out
       subst eo14
       go_wp2_with (first | ((with_reducible refine gate_callee (f := 33) rfl ?_); refine goesL_ (some 23) rfl rfl Try.func33 (by kernel_rfl) rfl #[.slice Ao14 x3_1.length co14] rfl (by (try simp only [List.map_toArray, List.map_cons, List.map_nil]); first | done | rfl | (simp only [List.length_drop, List.length_take]; rfl)) ?_; (with_reducible refine (keepsakeref01_left.calls k1 (fun k_ => some k_ = (.slice Ao14 x3_1.length co14 : Value).ownBlock) (.slice Ao14 x3_1.length co14) x3_1 t170 w _ ?side1 ?side2 A13.out).mono ?_); (case side1 => repeat (first | (with_reducible first | exact HB.out | apply below_alloc | apply pw_below_drewN | apply below_drew1) | exact HB.out)); (case side2 => exact Kd.R_tight rfl HO_3.out); rintro e w15 ⟨v171, rfl, ho0, hb, hkp⟩; refine ⟨_, rfl, ?_⟩; have n0_ := Aside0.mk (Kd.Q_mono (ok' := fun k_ => True) ho0 (fun k_ hk_ => trivial)); have n1_ := Aside0.mk (hb); clear HB; clear HO_3; have HO172 := n0_; have HB := n1_; clear n0_ n1_; (try clear hb); (try clear hkp); (try clear ho0)))
       go_loopg [6] k1 (fun kq v6 w' => ∃ (x5_2 : List Bool) (x6_2 : Int), v6 = .int .i64 x6_2 ∧ Aside0 (keepsakeref01_Sum.l1 kq x5_2 x6_2 = some r) ∧ Aside0 (kq ≤ k1) ∧ Aside0 (Kd.Q Kd.bool 4 w' w.heap.size (fun _ => True) v171 x5_2) ∧ Aside0 (Below w.heap.size w w'))
       case atStart => exact ⟨(t170), (0), (by first | rfl | (simp; done) | (simp [*]; done) | (simp; omega)), H', ⟨Nat.le_refl _⟩, ⟨by (with_reducible repeat (first | apply Kd.Q_alloc | apply Kd.Q_drewN | apply Kd.Q_drew)); exact HO172.out⟩, ⟨by repeat (first | (with_reducible first | exact HB.out | apply below_alloc | apply pw_below_drewN | apply below_drew1) | exact HB.out)⟩⟩
       case round =>
        clear H'
        try clear p1
        try clear q1
        try clear hx1
        try clear c2
        try clear p2
        try clear c3
        try clear c6
        try clear c6b0
        try clear p6
        try clear c7
        try clear c7b0
        try clear c8
        try clear c8b0
        try clear p9
        try clear q9
        try clear hx9
        try clear hf9
        try clear hx168_0
        try clear hx9_0
        try clear p168
        try clear p2
        try clear p9
        try clear q168
        try clear q9
        obtain ⟨x5_2, x6_2, rfl, HA, HK2, HO_5, HB⟩ := hrel
        cases gk with
        | zero => exact absurd HA.out (by simp [keepsakeref01_Sum.l1])
        | succ k2 =>
         have H := HA.out
         clear HA
         simp only [keepsakeref01_Sum.l1] at H
         by_cases c16 : x6_2 < 32
         · rw [if_pos c16] at H
           have c16b0 : decide (x6_2 < 32) = true := decide_eq_true c16
           clear c16
           by_cases c17 : 0 ≤ x6_2
           · rw [if_pos c17] at H
             have c17b0 : decide (0 ≤ x6_2) = true := decide_eq_true c17
             clear c17
             by_cases c18 : x6_2 < (x5_2.length : Int)
             · rw [if_pos c18] at H
               have c18b0 : decide (x6_2 < (x5_2.length : Int)) = true := decide_eq_true c18
               clear c18
               obtain ⟨y174, hy174⟩ : ∃ y_ : List Bool, y_ = (x5_2.set (x6_2 : Int).toNat (!(rdOf false x5_2 x6_2))) := ⟨_, rfl⟩
               replace H : (keepsakeref01_Sum.l1 k2 y174 (wrap64 (x6_2 + 1))) = some r := by first | (rw [hy174]; with_reducible exact H) | (have H2_ := (Option.bind_some _ _).symm.trans H; rw [hy174]; with_reducible exact H2_) | (have H2_ := (Option.bind_some _ _).symm.trans H; with_reducible exact H2_) | with_reducible exact H | (rw [hy174]; exact H) | exact H
               have Ny174 := Aside0.mk hy174
               clear hy174
               have H' := Aside0.mk H
               clear H
               obtain ⟨Ao20, co20, eo20, _⟩ := Kd.Q_slice HO_5.out
               subst eo20
               have p173 : 0 ≤ (x6_2 : Int) := of_decide_eq_true (by first | (with_reducible assumption) | assumption)
               have q173 : x6_2 < (x5_2.length : Int) := of_decide_eq_true (by first | (with_reducible assumption) | assumption)
               obtain ⟨ad173, e173, hx173_0⟩ := Kd.at_bool (Kd.Q_reads' HO_5.out).2.2 x6_2 p173 q173
               cases e173
               replace p173 := eq_true p173
               replace q173 := eq_true q173
               have p19 : 0 ≤ (x6_2 : Int) := of_decide_eq_true (by first | (with_reducible assumption) | assumption)
               have q19 : (x6_2 : Int) < ((x5_2.length : Int) : Int) := of_decide_eq_true (by first | (with_reducible assumption) | assumption)
               obtain ⟨go19, oo19, co19, eo19, gb19, gl19, cl19, HG19⟩ := Kd.Q_form HO_5.out (by omega)
               (first | cases eo19 | (injection eo19 with ea_ en_ ec_; (first | subst ea_ | (injection ea_ with ea_; subst ea_)); subst ec_; clear en_))
               have GB19 := Aside0.mk gb19
               have GG19 := Aside0.mk HG19
               clear gb19 gl19 HG19
               (first | simp only [add_at] at hx173_0 | skip)
               obtain ⟨hx19_0, hf19_0⟩ := Kd.Q_cell false HO_5.out (x6_2 : Int) p19 q19
               replace p19 := eq_true p19
               replace q19 := eq_true q19
               have HP21 := Kd.Q_putg HO_5.out (x6_2 : Int) (of_decide_eq_true (by first | (with_reducible assumption) | assumption)) (by have h_ : (x6_2 : Int) < ((x5_2.length : Int) : Int) := of_decide_eq_true (by first | (with_reducible assumption) | assumption); first | exact h_ | (have e_ := (Kd.Q_reads' HO_5.out).1; omega) | simpa using h_) (!(rdOf false x5_2 x6_2))
               go_wp2_with (first | ((with_reducible refine gate_store (t := 4) (p := 35) rfl ?_); refine store_event (t := 4) (p := 35) (v := ?vo_w22) (w1 := (wr.setCell ⟨go19, oo19 + (x6_2 : Int).toNat, none⟩ (.bool (!(rdOf false x5_2 x6_2))))) ?hg ?ho ?hn ?hr ?_; (case ho => rfl); (case hg => rfl); (case hn => rfl); (case hr => first | (go_simp; done) | (go_simp; rfl)); intro w22 hw; have hg : wr.grownBy w22 (some go19) := (by rw [hw]; exact HP21.2); have hp_ : Kd.Q Kd.bool 4 w22 w.heap.size (fun _ => True) (.slice (some ⟨go19, oo19, none⟩) x5_2.length co20) y174 := (by rw [hw, Ny174.out]; exact HP21.1); clear HP21; have n0_ := Aside0.mk (hp_); have n1_ := Aside0.mk ((by rw [hw]; exact below_set (HB.out) GB19.out : Below w.heap.size w w22)); clear HO_5; clear HB; have HO_5 := n0_; have HB := n1_; clear n0_ n1_; clear hg hw hp_))
               go_roundg k2
               case measure => have := HK1.out; have := HK2.out; omega
               case rel => exact ⟨(y174), (wrap64 (x6_2 + 1)), (by first | rfl | (simp; done) | (simp [*]; done) | (simp; omega)), H', ⟨by have := HK1.out; have := HK2.out; omega⟩, ⟨by (with_reducible repeat (first | apply Kd.Q_alloc | apply Kd.Q_drewN | apply Kd.Q_drew)); exact HO_5.out⟩, ⟨by repeat (first | (with_reducible first | exact HB.out | apply below_alloc | apply pw_below_drewN | apply below_drew1) | exact HB.out)⟩⟩
             · rw [if_neg c18] at H
               exact absurd H (by simp)
           · rw [if_neg c17] at H
             exact absurd H (by simp)
         · rw [if_neg c16] at H
           have c16b0 : decide (x6_2 < 32) = false := decide_eq_false c16
           clear c16
           replace H := Option.bind_eq_some_iff.mp H
           obtain ⟨t175, A230, H⟩ := H
           replace H : (some t175) = some r := H
           have A23 := Aside0.mk A230
           clear A230
           obtain rfl := Option.some.inj H
           obtain ⟨Ao24, co24, eo24, _⟩ := Kd.Q_slice HO_5.out
           subst eo24
           go_wp2_with (first | ((with_reducible refine gate_callee (f := 34) rfl ?_); refine goesL_ (some 37) rfl rfl Try.func34 (by kernel_rfl) rfl #[.slice Ao24 x5_2.length co24] rfl (by (try simp only [List.map_toArray, List.map_cons, List.map_nil]); first | done | rfl | (simp only [List.length_drop, List.length_take]; rfl)) ?_; (with_reducible refine (keepsakeref01_word.calls k2 _ _ x5_2 t175 _ ?side1 ?side2 A23.out).mono ?_); (case side1 => repeat (first | exact (Kd.Q_reads' HO_5.out).2.2 | (with_reducible refine Kd.C_alloc ?_ _) | (with_reducible refine Kd.C_drewN ?_ _) | (with_reducible refine Kd.C_drew ?_))); (case side2 => exact (Kd.Q_reads' HO_5.out).2.1); rintro e w' ⟨rfl, ⟨nd, rfl⟩⟩; refine ⟨_, rfl, ?_⟩))
           go_ret
           exact ⟨by first | rfl | (simp [errW_none, errW_some] <;> rfl) | (simp [*, errW_none, errW_some] <;> rfl), by repeat (first | (with_reducible first | exact HB.out | apply below_alloc | apply pw_below_drewN | apply below_drew1) | exact HB.out)⟩
 · rw [if_neg c3] at H
   exact absurd H (by simp)

end Go.Proofs.Ytoiiphlhdnlniaa.All
-- slimmed
