-- written by a program of mine (xprint_patch.py over the kit's print)
import Derived.Test.YtlinaijndlcfjaaDoorAx0
import Derived.Test.YtlinaijndlcfjaaDoorAx6
import Derived.Test.YtlinaijndlcfjaaDoorAx7
namespace Go.Proofs.YtlinaijndlcfjaaDoor.Given
end Go.Proofs.YtlinaijndlcfjaaDoor.Given
namespace Go.Proofs.YtlinaijndlcfjaaDoor.All
open Go.Proofs.YtlinaijndlcfjaaDoor.Given
open Go.RowKit Go.Proofs.YtlinaijndlcfjaaDoorW.PrintWords Go.Proofs.YtlinaijndlcfjaaDoorW.PrintLast Go.Proofs.YtlinaijndlcfjaaDoorW.PrintMore
attribute [local go_sem] max2_int min2_int max_two min_two max_three min_three max_four min_four   -- for this text's walks alone
set_option linter.unusedVariables false
set_option linter.unusedSimpArgs false

/-! ### keepsakeref01_Sum: function 24 -/
mutual
def keepsakeref01_Sum.l0 : Nat → List Bool → Int → Option (Int)
 | 0, _, _ => none
 | k + 1, x3, x4 => if x4 < 32 then (if 0 ≤ x4 then (if x4 < (x3.length : Int) then (keepsakeref01_Sum.l0 k (x3.set (x4 : Int).toNat (!(rdOf false x3 x4))) (wrap64 (x4 + 1))) else (none)) else (none)) else ((keepsakeref01_left.f k x3).bind fun t228 => (keepsakeref01_Sum.l1 k t228 0))
def keepsakeref01_Sum.l1 : Nat → List Bool → Int → Option (Int)
 | 0, _, _ => none
 | k + 1, x5, x6 => if x6 < 32 then (if 0 ≤ x6 then (if x6 < (x5.length : Int) then (keepsakeref01_Sum.l1 k (x5.set (x6 : Int).toNat (!(rdOf false x5 x6))) (wrap64 (x6 + 1))) else (none)) else (none)) else ((keepsakeref01_word.f k x5).bind fun t233 => (some t233))
end
def keepsakeref01_Sum.f (k : Nat) (l0 : List Int) : Option (Int) := (keepsakeref01_Bits.f k l0).bind fun t220 => (if t220.length + 32 < 140737488355328 then (keepsakeref01_Sum.l0 k (t220 ++ List.replicate 32 false) 0) else (none))
theorem keepsakeref01_Sum.mono_l : ∀ k, (∀ y0 y1, LeO (keepsakeref01_Sum.l0 k y0 y1) (keepsakeref01_Sum.l0 (k + 1) y0 y1)) ∧ (∀ y0 y1, LeO (keepsakeref01_Sum.l1 k y0 y1) (keepsakeref01_Sum.l1 (k + 1) y0 y1))
 | 0 => ⟨fun _ _ r h => by simp [keepsakeref01_Sum.l0] at h, fun _ _ r h => by simp [keepsakeref01_Sum.l1] at h⟩
 | k + 1 => by
  obtain ⟨ih0, ih1⟩ := keepsakeref01_Sum.mono_l k
  refine ⟨?_, ?_⟩
  · intro y0 y1
    unfold keepsakeref01_Sum.l0
    repeat' first
    | (with_reducible exact ih0 _ _)
    | (with_reducible exact ih1 _ _)
    | (with_reducible exact keepsakeref01_Bits.mono _ _)
    | (with_reducible exact keepsakeref01_left.mono _ _)
    | (with_reducible exact keepsakeref01_word.mono _ _)
    | (with_reducible exact LeO.refl _)
    | (with_reducible exact LeO.none _)
    | (with_reducible refine LeO.ite ?_ ?_)
    | (with_reducible refine LeO.bind ?_ (fun _ => ?_))
    | exact ih0 _ _
    | exact ih1 _ _
    | exact keepsakeref01_Bits.mono _ _
    | exact keepsakeref01_left.mono _ _
    | exact keepsakeref01_word.mono _ _
    | exact LeO.none _
    | refine LeO.ite ?_ ?_
    | refine LeO.bind ?_ (fun _ => ?_)
  · intro y0 y1
    unfold keepsakeref01_Sum.l1
    repeat' first
    | (with_reducible exact ih0 _ _)
    | (with_reducible exact ih1 _ _)
    | (with_reducible exact keepsakeref01_Bits.mono _ _)
    | (with_reducible exact keepsakeref01_left.mono _ _)
    | (with_reducible exact keepsakeref01_word.mono _ _)
    | (with_reducible exact LeO.refl _)
    | (with_reducible exact LeO.none _)
    | (with_reducible refine LeO.ite ?_ ?_)
    | (with_reducible refine LeO.bind ?_ (fun _ => ?_))
    | exact ih0 _ _
    | exact ih1 _ _
    | exact keepsakeref01_Bits.mono _ _
    | exact keepsakeref01_left.mono _ _
    | exact keepsakeref01_word.mono _ _
    | exact LeO.none _
    | refine LeO.ite ?_ ?_
    | refine LeO.bind ?_ (fun _ => ?_)
theorem keepsakeref01_Sum.mono : ∀ a0 k, LeO (keepsakeref01_Sum.f k a0) (keepsakeref01_Sum.f (k + 1) a0) := by
 intro a0 k
 obtain ⟨ih0, ih1⟩ := keepsakeref01_Sum.mono_l k
 unfold keepsakeref01_Sum.f
 repeat' first
  | (with_reducible exact ih0 _ _)
  | (with_reducible exact ih1 _ _)
  | (with_reducible exact keepsakeref01_Bits.mono _ _)
  | (with_reducible exact keepsakeref01_left.mono _ _)
  | (with_reducible exact keepsakeref01_word.mono _ _)
  | (with_reducible exact LeO.refl _)
  | (with_reducible exact LeO.none _)
  | (with_reducible refine LeO.ite ?_ ?_)
  | (with_reducible refine LeO.bind ?_ (fun _ => ?_))
  | exact ih0 _ _
  | exact ih1 _ _
  | exact keepsakeref01_Bits.mono _ _
  | exact keepsakeref01_left.mono _ _
  | exact keepsakeref01_word.mono _ _
  | exact LeO.none _
  | refine LeO.ite ?_ ?_
  | refine LeO.bind ?_ (fun _ => ?_)
set_option maxHeartbeats 8000000 in
set_option maxRecDepth 100000 in
theorem keepsakeref01_Sum.calls (k : Nat) (A0 : Option Addr) (c0 : Nat) (l0 : List Int) (r : Int) (w : World) (hr0 : Kd.C (Kd.int .u8) w A0 l0.length l0) (hc0 : l0.length ≤ c0) (h : keepsakeref01_Sum.f k l0 = some r) :
 Calls Tryd.prog 24 #[.slice A0 l0.length c0] w fun e w' => e = .returned (.int .u32 r) ∧ Below w.heap.size w w' := by
 have HR0 := Aside0.mk hr0
 have HC0 := Aside0.mk hc0
 clear hr0 hc0
 have HB := Aside0.mk (Below.refl w.heap.size w)
 have H : ((keepsakeref01_Bits.f k l0).bind fun t220 => (if t220.length + 32 < 140737488355328 then (keepsakeref01_Sum.l0 k (t220 ++ List.replicate 32 false) 0) else (none))) = some r := h
 clear h
 replace H := Option.bind_eq_some_iff.mp H
 obtain ⟨t220, A20, H⟩ := H
 replace H : (if t220.length + 32 < 140737488355328 then (keepsakeref01_Sum.l0 k (t220 ++ List.replicate 32 false) 0) else (none)) = some r := H
 have A2 := Aside0.mk A20
 clear A20
 by_cases c3 : t220.length + 32 < 140737488355328
 · rw [if_pos c3] at H
   have LMc3 := Aside0.mk c3
   clear c3
   obtain ⟨y223, hy223⟩ : ∃ y_ : List Bool, y_ = (t220 ++ List.replicate 32 false) := ⟨_, rfl⟩
   replace H : (keepsakeref01_Sum.l0 k y223 0) = some r := by first | (rw [hy223]; with_reducible exact H) | (have H2_ := (Option.bind_some _ _).symm.trans H; rw [hy223]; with_reducible exact H2_) | (have H2_ := (Option.bind_some _ _).symm.trans H; with_reducible exact H2_) | with_reducible exact H | (rw [hy223]; exact H) | exact H
   have Ny223 := Aside0.mk hy223
   clear hy223
   have H' := Aside0.mk H
   clear H
   go_enter Tryd.func24, Tryd.ntmps24
   go_wp2_with (first | ((with_reducible refine gate_callee (f := 37) rfl ?_); refine goesL_ (some 8) rfl rfl Tryd.func37 (by kernel_rfl) rfl #[.slice A0 l0.length c0] rfl (by (try simp only [List.map_toArray, List.map_cons, List.map_nil]); first | done | rfl | (simp only [List.length_drop, List.length_take]; rfl)) ?_; (with_reducible refine (keepsakeref01_Bits.calls k _ _ l0 t220 _ ?side1 ?side2 A2.out).mono ?_); (case side1 => repeat (first | exact HR0.out | (with_reducible refine Kd.C_alloc ?_ _) | (with_reducible refine Kd.C_drewN ?_ _) | (with_reducible refine Kd.C_drew ?_))); (case side2 => exact HC0.out); rintro e w4 ⟨v221, rfl, ho0, hb⟩; refine ⟨_, rfl, ?_⟩; have n0_ := Aside0.mk (Kd.R_lower ho0 (below_size (by repeat (first | (with_reducible first | exact HB.out | apply below_alloc | apply pw_below_drewN | apply below_drew1) | exact HB.out)))); have n1_ := Aside0.mk (below_step (by repeat (first | (with_reducible first | exact HB.out | apply below_alloc | apply pw_below_drewN | apply below_drew1) | exact HB.out)) hb); clear HB; have HO222 := n0_; have HB := n1_; clear n0_ n1_; (try clear hb); (try clear hb2); (try clear hk); (try clear hi); (try clear ho0)) | (at_builtin; refine Kd.R_append_zeros Kd.bool (w0 := w) w.heap.size rfl (.tmp 8) (.const (.int .i64 32)) 53 3 4 (.bool false) 1 rfl Tryd.underlying53 Tryd.underlying3 info4 rfl (by decide) (by omega) v221 t220 false (32 : Int) (fun _ => True) rfl rfl rfl ?aF ?aO (by omega) ?aB ?aS ?aL ?_; (case aB => exact (by repeat (first | (with_reducible first | exact HB.out | apply below_alloc | apply pw_below_drewN | apply below_drew1) | exact HB.out))); (case aF => exact (fun _ _ => trivial)); (case aO => exact (by (with_reducible repeat (first | apply Kd.R_alloc | apply Kd.R_drewN | apply Kd.R_drew)); exact HO222.out)); (case aS => exact (below_size (by repeat (first | (with_reducible first | exact HB.out | apply below_alloc | apply pw_below_drewN | apply below_drew1) | exact HB.out)))); (case aL => have := LMc3.out; omega); intro v224 w5 ho hb hg hat; (first | rw [← Ny223.out] at ho | (simp only [Int.reduceToNat] at ho; rw [← Ny223.out] at ho)); have n0_ := Aside0.mk (hb); have n1_ := Aside0.mk (ho); clear HB; clear HO222; have HB := n0_; have HO225 := n1_; clear n0_ n1_; clear ho hb hg hat))
   go_loopg [4] k (fun kq v4 w' => ∃ (x3_1 : List Bool) (x4_1 : Int), v4 = .int .i64 x4_1 ∧ Aside0 (keepsakeref01_Sum.l0 kq x3_1 x4_1 = some r) ∧ Aside0 (kq ≤ k) ∧ Aside0 (Kd.R Kd.bool 4 w' w.heap.size (fun _ => True) v224 x3_1) ∧ Aside0 (Below w.heap.size w w'))
   case atStart => exact ⟨(y223), (0), (by first | rfl | (simp; done) | (simp [*]; done) | (simp; omega)), H', ⟨Nat.le_refl _⟩, ⟨by (with_reducible repeat (first | apply Kd.R_alloc | apply Kd.R_drewN | apply Kd.R_drew)); exact HO225.out⟩, ⟨by repeat (first | (with_reducible first | exact HB.out | apply below_alloc | apply pw_below_drewN | apply below_drew1) | exact HB.out)⟩⟩
   case round =>
    clear H'
    try clear c2
    try clear p2
    try clear c3
    obtain ⟨x3_1, x4_1, rfl, HA, HK1, HO_3, HB⟩ := hrel
    cases gk with
    | zero => exact absurd HA.out (by simp [keepsakeref01_Sum.l0])
    | succ k1 =>
     have H := HA.out
     clear HA
     simp only [keepsakeref01_Sum.l0] at H
     by_cases c6 : x4_1 < 32
     · rw [if_pos c6] at H
       have c6b0 : decide (x4_1 < 32) = true := decide_eq_true c6
       clear c6
       by_cases c7 : 0 ≤ x4_1
       · rw [if_pos c7] at H
         have c7b0 : decide (0 ≤ x4_1) = true := decide_eq_true c7
         clear c7
         by_cases c8 : x4_1 < (x3_1.length : Int)
         · rw [if_pos c8] at H
           have c8b0 : decide (x4_1 < (x3_1.length : Int)) = true := decide_eq_true c8
           clear c8
           obtain ⟨y227, hy227⟩ : ∃ y_ : List Bool, y_ = (x3_1.set (x4_1 : Int).toNat (!(rdOf false x3_1 x4_1))) := ⟨_, rfl⟩
           replace H : (keepsakeref01_Sum.l0 k1 y227 (wrap64 (x4_1 + 1))) = some r := by first | (rw [hy227]; with_reducible exact H) | (have H2_ := (Option.bind_some _ _).symm.trans H; rw [hy227]; with_reducible exact H2_) | (have H2_ := (Option.bind_some _ _).symm.trans H; with_reducible exact H2_) | with_reducible exact H | (rw [hy227]; exact H) | exact H
           have Ny227 := Aside0.mk hy227
           clear hy227
           have H' := Aside0.mk H
           clear H
           obtain ⟨Ao10, co10, eo10⟩ := Kd.R_slice HO_3.out
           subst eo10
           have p226 : 0 ≤ (x4_1 : Int) := of_decide_eq_true (by first | (with_reducible assumption) | assumption)
           have q226 : x4_1 < (x3_1.length : Int) := of_decide_eq_true (by first | (with_reducible assumption) | assumption)
           obtain ⟨ad226, e226, hx226_0⟩ := Kd.at_bool (Kd.R_reads' HO_3.out).2.2 x4_1 p226 q226
           cases e226
           replace p226 := eq_true p226
           replace q226 := eq_true q226
           have p9 : 0 ≤ (x4_1 : Int) := of_decide_eq_true (by first | (with_reducible assumption) | assumption)
           have q9 : (x4_1 : Int) < ((x3_1.length : Int) : Int) := of_decide_eq_true (by first | (with_reducible assumption) | assumption)
           obtain ⟨go9, co9, eo9, gb9, gl9, cl9, HG9⟩ := Kd.R_form HO_3.out (by omega)
           (first | cases eo9 | (injection eo9 with ea_ en_ ec_; (first | subst ea_ | (injection ea_ with ea_; subst ea_)); subst ec_; clear en_))
           have GB9 := Aside0.mk gb9
           have GG9 := Aside0.mk HG9
           clear gb9 gl9 HG9
           (first | simp only [add_plain] at hx226_0 | skip)
           obtain ⟨hx9_0, hf9_0⟩ := Kd.R_celln false HO_3.out (x4_1 : Int) p9 q9
           replace p9 := eq_true p9
           replace q9 := eq_true q9
           have HP11 := Kd.R_putg HO_3.out (x4_1 : Int) (!(rdOf false x3_1 x4_1))
           go_wp2_with (first | ((with_reducible refine gate_store (t := 4) (p := 21) rfl ?_); refine store_event (t := 4) (p := 21) (v := ?vo_w12) (w1 := (wr.setCell ⟨go9, (x4_1 : Int).toNat, none⟩ (.bool (!(rdOf false x3_1 x4_1))))) ?hg ?ho ?hn ?hr ?_; (case ho => rfl); (case hg => rfl); (case hn => rfl); (case hr => first | (go_simp; done) | (go_simp; rfl)); intro w12 hw; have hg : wr.grownBy w12 (some go9) := (by rw [hw]; exact HP11.2); have hp_ : Kd.R Kd.bool 4 w12 w.heap.size (fun _ => True) (.slice (some ⟨go9, 0, none⟩) x3_1.length co10) y227 := (by rw [hw, Ny227.out]; exact HP11.1); clear HP11; have n0_ := Aside0.mk (hp_); have n1_ := Aside0.mk ((by rw [hw]; exact below_set (HB.out) GB9.out : Below w.heap.size w w12)); clear HO_3; clear HB; have HO_3 := n0_; have HB := n1_; clear n0_ n1_; clear hg hw hp_))
           go_roundg k1
           case measure => have := HK1.out; omega
           case rel => exact ⟨(y227), (wrap64 (x4_1 + 1)), (by first | rfl | (simp; done) | (simp [*]; done) | (simp; omega)), H', ⟨by have := HK1.out; omega⟩, ⟨by (with_reducible repeat (first | apply Kd.R_alloc | apply Kd.R_drewN | apply Kd.R_drew)); exact HO_3.out⟩, ⟨by repeat (first | (with_reducible first | exact HB.out | apply below_alloc | apply pw_below_drewN | apply below_drew1) | exact HB.out)⟩⟩
         · rw [if_neg c8] at H
           exact absurd H (by simp)
       · rw [if_neg c7] at H
         exact absurd H (by simp)
     · rw [if_neg c6] at H
       have c6b0 : decide (x4_1 < 32) = false := decide_eq_false c6
       clear c6
       replace H := Option.bind_eq_some_iff.mp H
       obtain ⟨t228, A130, H⟩ := H
       replace H : (keepsakeref01_Sum.l1 k1 t228 0) = some r := H
       have A13 := Aside0.mk A130
       clear A130
       have H' := Aside0.mk H
       clear H
       obtain ⟨Ao14, co14, eo14⟩ := Kd.R_slice HO_3.out
       subst eo14
       go_wp2_with (first | ((with_reducible refine gate_callee (f := 38) rfl ?_); refine goesL_ (some 23) rfl rfl Tryd.func38 (by kernel_rfl) rfl #[.slice Ao14 x3_1.length co14] rfl (by (try simp only [List.map_toArray, List.map_cons, List.map_nil]); first | done | rfl | (simp only [List.length_drop, List.length_take]; rfl)) ?_; (with_reducible refine (keepsakeref01_left.calls k1 (fun k_ => some k_ = (.slice Ao14 x3_1.length co14 : Value).ownBlock) (.slice Ao14 x3_1.length co14) x3_1 t228 w _ ?side1 ?side2 A13.out).mono ?_); (case side1 => repeat (first | (with_reducible first | exact HB.out | apply below_alloc | apply pw_below_drewN | apply below_drew1) | exact HB.out)); (case side2 => exact Kd.R_tight rfl HO_3.out); rintro e w15 ⟨v229, rfl, ho0, hb, hkp⟩; refine ⟨_, rfl, ?_⟩; have n0_ := Aside0.mk (Kd.Q_mono (ok' := fun k_ => True) ho0 (fun k_ hk_ => trivial)); have n1_ := Aside0.mk (hb); clear HB; clear HO_3; have HO230 := n0_; have HB := n1_; clear n0_ n1_; (try clear hb); (try clear hkp); (try clear ho0)))
       go_loopg [6] k1 (fun kq v6 w' => ∃ (x5_2 : List Bool) (x6_2 : Int), v6 = .int .i64 x6_2 ∧ Aside0 (keepsakeref01_Sum.l1 kq x5_2 x6_2 = some r) ∧ Aside0 (kq ≤ k1) ∧ Aside0 (Kd.Q Kd.bool 4 w' w.heap.size (fun _ => True) v229 x5_2) ∧ Aside0 (Below w.heap.size w w'))
       case atStart => exact ⟨(t228), (0), (by first | rfl | (simp; done) | (simp [*]; done) | (simp; omega)), H', ⟨Nat.le_refl _⟩, ⟨by (with_reducible repeat (first | apply Kd.Q_alloc | apply Kd.Q_drewN | apply Kd.Q_drew)); exact HO230.out⟩, ⟨by repeat (first | (with_reducible first | exact HB.out | apply below_alloc | apply pw_below_drewN | apply below_drew1) | exact HB.out)⟩⟩
       case round =>
        clear H'
        try clear c2
        try clear p2
        try clear q2
        try clear hx2
        try clear c3
        try clear c6
        try clear c6b0
        try clear p6
        try clear c7
        try clear c7b0
        try clear c8
        try clear c8b0
        try clear p9
        try clear q9
        try clear hx9
        try clear hf9
        try clear hx226_0
        try clear hx9_0
        try clear p2
        try clear p226
        try clear p9
        try clear q226
        try clear q9
        obtain ⟨x5_2, x6_2, rfl, HA, HK2, HO_5, HB⟩ := hrel
        cases gk with
        | zero => exact absurd HA.out (by simp [keepsakeref01_Sum.l1])
        | succ k2 =>
         have H := HA.out
         clear HA
         simp only [keepsakeref01_Sum.l1] at H
         by_cases c16 : x6_2 < 32
         · rw [if_pos c16] at H
           have c16b0 : decide (x6_2 < 32) = true := decide_eq_true c16
           clear c16
           by_cases c17 : 0 ≤ x6_2
           · rw [if_pos c17] at H
             have c17b0 : decide (0 ≤ x6_2) = true := decide_eq_true c17
             clear c17
             by_cases c18 : x6_2 < (x5_2.length : Int)
             · rw [if_pos c18] at H
               have c18b0 : decide (x6_2 < (x5_2.length : Int)) = true := decide_eq_true c18
               clear c18
               obtain ⟨y232, hy232⟩ : ∃ y_ : List Bool, y_ = (x5_2.set (x6_2 : Int).toNat (!(rdOf false x5_2 x6_2))) := ⟨_, rfl⟩
               replace H : (keepsakeref01_Sum.l1 k2 y232 (wrap64 (x6_2 + 1))) = some r := by first | (rw [hy232]; with_reducible exact H) | (have H2_ := (Option.bind_some _ _).symm.trans H; rw [hy232]; with_reducible exact H2_) | (have H2_ := (Option.bind_some _ _).symm.trans H; with_reducible exact H2_) | with_reducible exact H | (rw [hy232]; exact H) | exact H
               have Ny232 := Aside0.mk hy232
               clear hy232
               have H' := Aside0.mk H
               clear H
               obtain ⟨Ao20, co20, eo20, _⟩ := Kd.Q_slice HO_5.out
               subst eo20
               have p231 : 0 ≤ (x6_2 : Int) := of_decide_eq_true (by first | (with_reducible assumption) | assumption)
               have q231 : x6_2 < (x5_2.length : Int) := of_decide_eq_true (by first | (with_reducible assumption) | assumption)
               obtain ⟨ad231, e231, hx231_0⟩ := Kd.at_bool (Kd.Q_reads' HO_5.out).2.2 x6_2 p231 q231
               cases e231
               replace p231 := eq_true p231
               replace q231 := eq_true q231
               have p19 : 0 ≤ (x6_2 : Int) := of_decide_eq_true (by first | (with_reducible assumption) | assumption)
               have q19 : (x6_2 : Int) < ((x5_2.length : Int) : Int) := of_decide_eq_true (by first | (with_reducible assumption) | assumption)
               obtain ⟨go19, oo19, co19, eo19, gb19, gl19, cl19, HG19⟩ := Kd.Q_form HO_5.out (by omega)
               (first | cases eo19 | (injection eo19 with ea_ en_ ec_; (first | subst ea_ | (injection ea_ with ea_; subst ea_)); subst ec_; clear en_))
               have GB19 := Aside0.mk gb19
               have GG19 := Aside0.mk HG19
               clear gb19 gl19 HG19
               (first | simp only [add_at] at hx231_0 | skip)
               obtain ⟨hx19_0, hf19_0⟩ := Kd.Q_cell false HO_5.out (x6_2 : Int) p19 q19
               replace p19 := eq_true p19
               replace q19 := eq_true q19
               have HP21 := Kd.Q_putg HO_5.out (x6_2 : Int) (of_decide_eq_true (by first | (with_reducible assumption) | assumption)) (by have h_ : (x6_2 : Int) < ((x5_2.length : Int) : Int) := of_decide_eq_true (by first | (with_reducible assumption) | assumption); first | exact h_ | (have e_ := (Kd.Q_reads' HO_5.out).1; omega) | simpa using h_) (!(rdOf false x5_2 x6_2))
               go_wp2_with (first | ((with_reducible refine gate_store (t := 4) (p := 35) rfl ?_); refine store_event (t := 4) (p := 35) (v := ?vo_w22) (w1 := (wr.setCell ⟨go19, oo19 + (x6_2 : Int).toNat, none⟩ (.bool (!(rdOf false x5_2 x6_2))))) ?hg ?ho ?hn ?hr ?_; (case ho => rfl); (case hg => rfl); (case hn => rfl); (case hr => first | (go_simp; done) | (go_simp; rfl)); intro w22 hw; have hg : wr.grownBy w22 (some go19) := (by rw [hw]; exact HP21.2); have hp_ : Kd.Q Kd.bool 4 w22 w.heap.size (fun _ => True) (.slice (some ⟨go19, oo19, none⟩) x5_2.length co20) y232 := (by rw [hw, Ny232.out]; exact HP21.1); clear HP21; have n0_ := Aside0.mk (hp_); have n1_ := Aside0.mk ((by rw [hw]; exact below_set (HB.out) GB19.out : Below w.heap.size w w22)); clear HO_5; clear HB; have HO_5 := n0_; have HB := n1_; clear n0_ n1_; clear hg hw hp_))
               go_roundg k2
               case measure => have := HK1.out; have := HK2.out; omega
               case rel => exact ⟨(y232), (wrap64 (x6_2 + 1)), (by first | rfl | (simp; done) | (simp [*]; done) | (simp; omega)), H', ⟨by have := HK1.out; have := HK2.out; omega⟩, ⟨by (with_reducible repeat (first | apply Kd.Q_alloc | apply Kd.Q_drewN | apply Kd.Q_drew)); exact HO_5.out⟩, ⟨by repeat (first | (with_reducible first | exact HB.out | apply below_alloc | apply pw_below_drewN | apply below_drew1) | exact HB.out)⟩⟩
             · rw [if_neg c18] at H
               exact absurd H (by simp)
           · rw [if_neg c17] at H
             exact absurd H (by simp)
         · rw [if_neg c16] at H
           have c16b0 : decide (x6_2 < 32) = false := decide_eq_false c16
           clear c16
           replace H := Option.bind_eq_some_iff.mp H
           obtain ⟨t233, A230, H⟩ := H
           replace H : (some t233) = some r := H
           have A23 := Aside0.mk A230
           clear A230
           obtain rfl := Option.some.inj H
           obtain ⟨Ao24, co24, eo24, _⟩ := Kd.Q_slice HO_5.out
           subst eo24
           go_wp2_with (first | ((with_reducible refine gate_callee (f := 39) rfl ?_); refine goesL_ (some 37) rfl rfl Tryd.func39 (by kernel_rfl) rfl #[.slice Ao24 x5_2.length co24] rfl (by (try simp only [List.map_toArray, List.map_cons, List.map_nil]); first | done | rfl | (simp only [List.length_drop, List.length_take]; rfl)) ?_; (with_reducible refine (keepsakeref01_word.calls k2 _ _ x5_2 t233 _ ?side1 ?side2 A23.out).mono ?_); (case side1 => repeat (first | exact (Kd.Q_reads' HO_5.out).2.2 | (with_reducible refine Kd.C_alloc ?_ _) | (with_reducible refine Kd.C_drewN ?_ _) | (with_reducible refine Kd.C_drew ?_))); (case side2 => exact (Kd.Q_reads' HO_5.out).2.1); rintro e w' ⟨rfl, ⟨nd, rfl⟩⟩; refine ⟨_, rfl, ?_⟩))
           go_ret
           exact ⟨by first | rfl | (simp [errW_none, errW_some] <;> rfl) | (simp [*, errW_none, errW_some] <;> rfl), by repeat (first | (with_reducible first | exact HB.out | apply below_alloc | apply pw_below_drewN | apply below_drew1) | exact HB.out)⟩
 · rw [if_neg c3] at H
   exact absurd H (by simp)

/-! ### keepsakeref04_Encode: function 11 -/
def keepsakeref04_Encode.f (k : Nat) (a0_0 : Int) (a0_1 : Int) (a0_2 : Int) (a0_3 : Int) (a0_4 : Int) (a0_5 : Int) : Option (List Int × Int) := (keepsakeref04_can.f a0_0 a0_1 a0_2 a0_3 a0_4 a0_5).bind fun t235 => (if t235 = true then ((some (([75, 69, 69, 80, 1, (a0_0) % 256, (a0_1) % 256, (a0_2) % 256] : List Int) : List Int)).bind fun y236 => ((keepsakeref04_Bytes.f k (IntKind.u64.wrap (a0_3)) 4).bind fun t239 => (if y236.length + t239.length < 140737488355328 then ((some (y236 ++ t239 : List Int)).bind fun y242 => ((keepsakeref04_Bytes.f k a0_4 8).bind fun t245 => (if y242.length + t245.length < 140737488355328 then ((some (y242 ++ t245 : List Int)).bind fun y248 => ((keepsakeref04_Bytes.f k (IntKind.u64.wrap (a0_5)) 4).bind fun t251 => (if y248.length + t251.length < 140737488355328 then ((some (y248 ++ t251 : List Int)).bind fun y254 => ((keepsakeref01_Sum.f k y254).bind fun t257 => ((keepsakeref04_Bytes.f k (IntKind.u64.wrap (t257)) 4).bind fun t258 => (if y254.length + t258.length < 140737488355328 then (some ((y254 ++ t258), 0)) else (none))))) else (none)))) else (none)))) else (none)))) else (some (([] : List Int), 9)))
theorem keepsakeref04_Encode.mono : ∀ a0 a1 a2 a3 a4 a5 k, LeO (keepsakeref04_Encode.f k a0 a1 a2 a3 a4 a5) (keepsakeref04_Encode.f (k + 1) a0 a1 a2 a3 a4 a5) := by
 intro a0 a1 a2 a3 a4 a5 k
 unfold keepsakeref04_Encode.f
 repeat' first
  | (with_reducible exact keepsakeref01_Sum.mono _ _)
  | (with_reducible exact keepsakeref04_Bytes.mono _ _ _)
  | (with_reducible exact LeO.refl _)
  | (with_reducible exact LeO.none _)
  | (with_reducible refine LeO.ite ?_ ?_)
  | (with_reducible refine LeO.bind ?_ (fun _ => ?_))
  | exact keepsakeref01_Sum.mono _ _
  | exact keepsakeref04_Bytes.mono _ _ _
  | exact LeO.none _
  | refine LeO.ite ?_ ?_
  | refine LeO.bind ?_ (fun _ => ?_)
set_option maxHeartbeats 8000000 in
set_option maxRecDepth 100000 in
theorem keepsakeref04_Encode.calls (k : Nat) (a0_0 : Int) (a0_1 : Int) (a0_2 : Int) (a0_3 : Int) (a0_4 : Int) (a0_5 : Int) (r1 : List Int) (r2 : Int) (w : World) (h : keepsakeref04_Encode.f k a0_0 a0_1 a0_2 a0_3 a0_4 a0_5 = some (r1, r2)) :
 Calls Tryd.prog 11 #[.agg #[.int .i64 a0_0, .int .i64 a0_1, .int .i64 a0_2, .int .i64 a0_3, .int .u64 a0_4, .int .u32 a0_5]] w fun e w' => ∃ v0_ : Value, e = .returned (.tuple #[v0_, .int .i64 r2]) ∧ Kd.R (Kd.int .u8) 5 w' w.heap.size (fun _ => True) v0_ r1 ∧ Below w.heap.size w w' := by
 have hu27 := Tryd.underlying27
 have HB := Aside0.mk (Below.refl w.heap.size w)
 have H : ((keepsakeref04_can.f a0_0 a0_1 a0_2 a0_3 a0_4 a0_5).bind fun t235 => (if t235 = true then ((some (([75, 69, 69, 80, 1, (a0_0) % 256, (a0_1) % 256, (a0_2) % 256] : List Int) : List Int)).bind fun y236 => ((keepsakeref04_Bytes.f k (IntKind.u64.wrap (a0_3)) 4).bind fun t239 => (if y236.length + t239.length < 140737488355328 then ((some (y236 ++ t239 : List Int)).bind fun y242 => ((keepsakeref04_Bytes.f k a0_4 8).bind fun t245 => (if y242.length + t245.length < 140737488355328 then ((some (y242 ++ t245 : List Int)).bind fun y248 => ((keepsakeref04_Bytes.f k (IntKind.u64.wrap (a0_5)) 4).bind fun t251 => (if y248.length + t251.length < 140737488355328 then ((some (y248 ++ t251 : List Int)).bind fun y254 => ((keepsakeref01_Sum.f k y254).bind fun t257 => ((keepsakeref04_Bytes.f k (IntKind.u64.wrap (t257)) 4).bind fun t258 => (if y254.length + t258.length < 140737488355328 then (some ((y254 ++ t258), 0)) else (none))))) else (none)))) else (none)))) else (none)))) else (some (([] : List Int), 9)))) = some (r1, r2) := h
 clear h
 replace H := Option.bind_eq_some_iff.mp H
 obtain ⟨t235, A20, H⟩ := H
 replace H : (if t235 = true then ((some (([75, 69, 69, 80, 1, (a0_0) % 256, (a0_1) % 256, (a0_2) % 256] : List Int) : List Int)).bind fun y236 => ((keepsakeref04_Bytes.f k (IntKind.u64.wrap (a0_3)) 4).bind fun t239 => (if y236.length + t239.length < 140737488355328 then ((some (y236 ++ t239 : List Int)).bind fun y242 => ((keepsakeref04_Bytes.f k a0_4 8).bind fun t245 => (if y242.length + t245.length < 140737488355328 then ((some (y242 ++ t245 : List Int)).bind fun y248 => ((keepsakeref04_Bytes.f k (IntKind.u64.wrap (a0_5)) 4).bind fun t251 => (if y248.length + t251.length < 140737488355328 then ((some (y248 ++ t251 : List Int)).bind fun y254 => ((keepsakeref01_Sum.f k y254).bind fun t257 => ((keepsakeref04_Bytes.f k (IntKind.u64.wrap (t257)) 4).bind fun t258 => (if y254.length + t258.length < 140737488355328 then (some ((y254 ++ t258), 0)) else (none))))) else (none)))) else (none)))) else (none)))) else (some (([] : List Int), 9))) = some (r1, r2) := H
 have A2 := Aside0.mk A20
 clear A20
 by_cases c3 : t235 = true
 · subst c3
   have H1 : ((some (([75, 69, 69, 80, 1, (a0_0) % 256, (a0_1) % 256, (a0_2) % 256] : List Int) : List Int)).bind fun y236 => ((keepsakeref04_Bytes.f k (IntKind.u64.wrap (a0_3)) 4).bind fun t239 => (if y236.length + t239.length < 140737488355328 then ((some (y236 ++ t239 : List Int)).bind fun y242 => ((keepsakeref04_Bytes.f k a0_4 8).bind fun t245 => (if y242.length + t245.length < 140737488355328 then ((some (y242 ++ t245 : List Int)).bind fun y248 => ((keepsakeref04_Bytes.f k (IntKind.u64.wrap (a0_5)) 4).bind fun t251 => (if y248.length + t251.length < 140737488355328 then ((some (y248 ++ t251 : List Int)).bind fun y254 => ((keepsakeref01_Sum.f k y254).bind fun t257 => ((keepsakeref04_Bytes.f k (IntKind.u64.wrap (t257)) 4).bind fun t258 => (if y254.length + t258.length < 140737488355328 then (some ((y254 ++ t258), 0)) else (none))))) else (none)))) else (none)))) else (none)))) = some (r1, r2) := by rw [if_pos rfl] at H; exact H
   clear H
   have H := H1
   clear H1
   obtain ⟨y236, hy236⟩ : ∃ y_ : List Int, y_ = (([75, 69, 69, 80, 1, (a0_0) % 256, (a0_1) % 256, (a0_2) % 256] : List Int)) := ⟨_, rfl⟩
   replace H : ((keepsakeref04_Bytes.f k (IntKind.u64.wrap (a0_3)) 4).bind fun t239 => (if y236.length + t239.length < 140737488355328 then ((some (y236 ++ t239 : List Int)).bind fun y242 => ((keepsakeref04_Bytes.f k a0_4 8).bind fun t245 => (if y242.length + t245.length < 140737488355328 then ((some (y242 ++ t245 : List Int)).bind fun y248 => ((keepsakeref04_Bytes.f k (IntKind.u64.wrap (a0_5)) 4).bind fun t251 => (if y248.length + t251.length < 140737488355328 then ((some (y248 ++ t251 : List Int)).bind fun y254 => ((keepsakeref01_Sum.f k y254).bind fun t257 => ((keepsakeref04_Bytes.f k (IntKind.u64.wrap (t257)) 4).bind fun t258 => (if y254.length + t258.length < 140737488355328 then (some ((y254 ++ t258), 0)) else (none))))) else (none)))) else (none)))) else (none))) = some (r1, r2) := by first | (rw [hy236]; with_reducible exact H) | (have H2_ := (Option.bind_some _ _).symm.trans H; rw [hy236]; with_reducible exact H2_) | (have H2_ := (Option.bind_some _ _).symm.trans H; with_reducible exact H2_) | with_reducible exact H | (rw [hy236]; exact H) | exact H
   have Ny236 := Aside0.mk hy236
   clear hy236
   replace H := Option.bind_eq_some_iff.mp H
   obtain ⟨t239, A40, H⟩ := H
   replace H : (if y236.length + t239.length < 140737488355328 then ((some (y236 ++ t239 : List Int)).bind fun y242 => ((keepsakeref04_Bytes.f k a0_4 8).bind fun t245 => (if y242.length + t245.length < 140737488355328 then ((some (y242 ++ t245 : List Int)).bind fun y248 => ((keepsakeref04_Bytes.f k (IntKind.u64.wrap (a0_5)) 4).bind fun t251 => (if y248.length + t251.length < 140737488355328 then ((some (y248 ++ t251 : List Int)).bind fun y254 => ((keepsakeref01_Sum.f k y254).bind fun t257 => ((keepsakeref04_Bytes.f k (IntKind.u64.wrap (t257)) 4).bind fun t258 => (if y254.length + t258.length < 140737488355328 then (some ((y254 ++ t258), 0)) else (none))))) else (none)))) else (none)))) else (none)) = some (r1, r2) := H
   have A4 := Aside0.mk A40
   clear A40
   by_cases c5 : y236.length + t239.length < 140737488355328
   · rw [if_pos c5] at H
     have LMc5 := Aside0.mk c5
     clear c5
     obtain ⟨y242, hy242⟩ : ∃ y_ : List Int, y_ = (y236 ++ t239) := ⟨_, rfl⟩
     replace H : ((keepsakeref04_Bytes.f k a0_4 8).bind fun t245 => (if y242.length + t245.length < 140737488355328 then ((some (y242 ++ t245 : List Int)).bind fun y248 => ((keepsakeref04_Bytes.f k (IntKind.u64.wrap (a0_5)) 4).bind fun t251 => (if y248.length + t251.length < 140737488355328 then ((some (y248 ++ t251 : List Int)).bind fun y254 => ((keepsakeref01_Sum.f k y254).bind fun t257 => ((keepsakeref04_Bytes.f k (IntKind.u64.wrap (t257)) 4).bind fun t258 => (if y254.length + t258.length < 140737488355328 then (some ((y254 ++ t258), 0)) else (none))))) else (none)))) else (none))) = some (r1, r2) := by first | (rw [hy242]; with_reducible exact H) | (have H2_ := (Option.bind_some _ _).symm.trans H; rw [hy242]; with_reducible exact H2_) | (have H2_ := (Option.bind_some _ _).symm.trans H; with_reducible exact H2_) | with_reducible exact H | (rw [hy242]; exact H) | exact H
     have Ny242 := Aside0.mk hy242
     clear hy242
     replace H := Option.bind_eq_some_iff.mp H
     obtain ⟨t245, A60, H⟩ := H
     replace H : (if y242.length + t245.length < 140737488355328 then ((some (y242 ++ t245 : List Int)).bind fun y248 => ((keepsakeref04_Bytes.f k (IntKind.u64.wrap (a0_5)) 4).bind fun t251 => (if y248.length + t251.length < 140737488355328 then ((some (y248 ++ t251 : List Int)).bind fun y254 => ((keepsakeref01_Sum.f k y254).bind fun t257 => ((keepsakeref04_Bytes.f k (IntKind.u64.wrap (t257)) 4).bind fun t258 => (if y254.length + t258.length < 140737488355328 then (some ((y254 ++ t258), 0)) else (none))))) else (none)))) else (none)) = some (r1, r2) := H
     have A6 := Aside0.mk A60
     clear A60
     by_cases c7 : y242.length + t245.length < 140737488355328
     · rw [if_pos c7] at H
       have LMc7 := Aside0.mk c7
       clear c7
       obtain ⟨y248, hy248⟩ : ∃ y_ : List Int, y_ = (y242 ++ t245) := ⟨_, rfl⟩
       replace H : ((keepsakeref04_Bytes.f k (IntKind.u64.wrap (a0_5)) 4).bind fun t251 => (if y248.length + t251.length < 140737488355328 then ((some (y248 ++ t251 : List Int)).bind fun y254 => ((keepsakeref01_Sum.f k y254).bind fun t257 => ((keepsakeref04_Bytes.f k (IntKind.u64.wrap (t257)) 4).bind fun t258 => (if y254.length + t258.length < 140737488355328 then (some ((y254 ++ t258), 0)) else (none))))) else (none))) = some (r1, r2) := by first | (rw [hy248]; with_reducible exact H) | (have H2_ := (Option.bind_some _ _).symm.trans H; rw [hy248]; with_reducible exact H2_) | (have H2_ := (Option.bind_some _ _).symm.trans H; with_reducible exact H2_) | with_reducible exact H | (rw [hy248]; exact H) | exact H
       have Ny248 := Aside0.mk hy248
       clear hy248
       replace H := Option.bind_eq_some_iff.mp H
       obtain ⟨t251, A80, H⟩ := H
       replace H : (if y248.length + t251.length < 140737488355328 then ((some (y248 ++ t251 : List Int)).bind fun y254 => ((keepsakeref01_Sum.f k y254).bind fun t257 => ((keepsakeref04_Bytes.f k (IntKind.u64.wrap (t257)) 4).bind fun t258 => (if y254.length + t258.length < 140737488355328 then (some ((y254 ++ t258), 0)) else (none))))) else (none)) = some (r1, r2) := H
       have A8 := Aside0.mk A80
       clear A80
       by_cases c9 : y248.length + t251.length < 140737488355328
       · rw [if_pos c9] at H
         have LMc9 := Aside0.mk c9
         clear c9
         obtain ⟨y254, hy254⟩ : ∃ y_ : List Int, y_ = (y248 ++ t251) := ⟨_, rfl⟩
         replace H : ((keepsakeref01_Sum.f k y254).bind fun t257 => ((keepsakeref04_Bytes.f k (IntKind.u64.wrap (t257)) 4).bind fun t258 => (if y254.length + t258.length < 140737488355328 then (some ((y254 ++ t258), 0)) else (none)))) = some (r1, r2) := by first | (rw [hy254]; with_reducible exact H) | (have H2_ := (Option.bind_some _ _).symm.trans H; rw [hy254]; with_reducible exact H2_) | (have H2_ := (Option.bind_some _ _).symm.trans H; with_reducible exact H2_) | with_reducible exact H | (rw [hy254]; exact H) | exact H
         have Ny254 := Aside0.mk hy254
         clear hy254
         replace H := Option.bind_eq_some_iff.mp H
         obtain ⟨t257, A100, H⟩ := H
         replace H : ((keepsakeref04_Bytes.f k (IntKind.u64.wrap (t257)) 4).bind fun t258 => (if y254.length + t258.length < 140737488355328 then (some ((y254 ++ t258), 0)) else (none))) = some (r1, r2) := H
         have A10 := Aside0.mk A100
         clear A100
         replace H := Option.bind_eq_some_iff.mp H
         obtain ⟨t258, A110, H⟩ := H
         replace H : (if y254.length + t258.length < 140737488355328 then (some ((y254 ++ t258), 0)) else (none)) = some (r1, r2) := H
         have A11 := Aside0.mk A110
         clear A110
         by_cases c12 : y254.length + t258.length < 140737488355328
         · rw [if_pos c12] at H
           have LMc12 := Aside0.mk c12
           clear c12
           obtain ⟨y261, hy261⟩ : ∃ y_ : List Int, y_ = (y254 ++ t258) := ⟨_, rfl⟩
           replace H : (some (y261, 0)) = some (r1, r2) := by first | (rw [hy261]; with_reducible exact H) | (have H2_ := (Option.bind_some _ _).symm.trans H; rw [hy261]; with_reducible exact H2_) | (have H2_ := (Option.bind_some _ _).symm.trans H; with_reducible exact H2_) | with_reducible exact H | (rw [hy261]; exact H) | exact H
           have Ny261 := Aside0.mk hy261
           clear hy261
           simp only [Option.some.injEq, Prod.mk.injEq] at H
           obtain ⟨rfl, rfl⟩ := H
           go_enter Tryd.func11, Tryd.ntmps11
           go_wp2_with (first | ((with_reducible refine gate_dst (N := 1) rfl ?_); refine box_event ?hg (N := 1) ?hd (cs := #[.int .i64 a0_0, .int .i64 a0_1, .int .i64 a0_2, .int .i64 a0_3, .int .u64 a0_4, .int .u32 a0_5]) (t := 27) ?hr ?_; (case hd => rfl); (case hg => rfl); (case hr => first | (go_simp; done) | (go_simp; rfl)); intro gb234 hg w13 hbox hb; have n0_ := Aside0.mk (below_step (by repeat (first | (with_reducible first | exact HB.out | apply below_alloc | apply pw_below_drewN | apply below_drew1) | exact HB.out)) hb); have n1_ := Aside0.mk (hbox); have n2_ := Aside0.mk ((by rw [hg]; exact (below_size (by repeat (first | (with_reducible first | exact HB.out | apply below_alloc | apply pw_below_drewN | apply below_drew1) | exact HB.out))) : w.heap.size ≤ gb234)); have n3_ := Aside0.mk ((by rw [hg]; exact (below_size (by repeat (first | (with_reducible first | exact HB.out | apply below_alloc | apply pw_below_drewN | apply below_drew1) | exact HB.out))) : w.heap.size ≤ gb234)); clear HB; have HB := n0_; have BK234 := n1_; have GW234 := n2_; have GE234 := n3_; clear n0_ n1_ n2_ n3_; clear hb hbox hg; have hcz14_0 : w13.cell? ⟨gb234, 0, none⟩ = some (.int .i64 a0_0) := (blk_cell BK234.out 0).trans rfl; have hcz14_1 : w13.cell? ⟨gb234, 1, none⟩ = some (.int .i64 a0_1) := (blk_cell BK234.out 1).trans rfl; have hcz14_2 : w13.cell? ⟨gb234, 2, none⟩ = some (.int .i64 a0_2) := (blk_cell BK234.out 2).trans rfl; have hcz14_3 : w13.cell? ⟨gb234, 3, none⟩ = some (.int .i64 a0_3) := (blk_cell BK234.out 3).trans rfl; have hcz14_4 : w13.cell? ⟨gb234, 4, none⟩ = some (.int .u64 a0_4) := (blk_cell BK234.out 4).trans rfl; have hcz14_5 : w13.cell? ⟨gb234, 5, none⟩ = some (.int .u32 a0_5) := (blk_cell BK234.out 5).trans rfl; have hfz14_0 := blk_frozen BK234.out 0; have hfz14_1 := blk_frozen BK234.out 1; have hfz14_2 := blk_frozen BK234.out 2; have hfz14_3 := blk_frozen BK234.out 3; have hfz14_4 := blk_frozen BK234.out 4; have hfz14_5 := blk_frozen BK234.out 5) | ((with_reducible refine gate_callee (f := 23) rfl ?_); refine goesL_ (some 7) rfl rfl Tryd.func23 (by kernel_rfl) rfl #[.agg #[.int .i64 a0_0, .int .i64 a0_1, .int .i64 a0_2, .int .i64 a0_3, .int .u64 a0_4, .int .u32 a0_5]] rfl (by (try simp only [List.map_toArray, List.map_cons, List.map_nil]); first | done | rfl | (simp only [List.length_drop, List.length_take]; rfl)) ?_; (with_reducible refine (keepsakeref04_can.calls a0_0 a0_1 a0_2 a0_3 a0_4 a0_5 true _ A2.out).mono ?_); rintro e w15 ⟨rfl, hb⟩; refine ⟨_, rfl, ?_⟩; have n0_ := Aside0.mk (blk_below (g := gb234) (o := .cells #[.int .i64 a0_0, .int .i64 a0_1, .int .i64 a0_2, .int .i64 a0_3, .int .u64 a0_4, .int .u32 a0_5] 27 (0, 0)) (by (with_reducible repeat (first | refine blk_drewN ?_ _ | refine blk_drew ?_ | refine blk_alloc ?_ _)); exact BK234.out) hb); have n1_ := Aside0.mk (below_step (by repeat (first | (with_reducible first | exact HB.out | apply below_alloc | apply pw_below_drewN | apply below_drew1 | refine below_set ?_ GE234.out) | exact HB.out)) hb); clear BK234; clear HB; have BK234 := n0_; have HB := n1_; clear n0_ n1_; (try clear hb); (try clear hb2); (try clear hk); (try clear hi); have hcz16_0 : w15.cell? ⟨gb234, 0, none⟩ = some (.int .i64 a0_0) := (blk_cell BK234.out 0).trans rfl; have hcz16_1 : w15.cell? ⟨gb234, 1, none⟩ = some (.int .i64 a0_1) := (blk_cell BK234.out 1).trans rfl; have hcz16_2 : w15.cell? ⟨gb234, 2, none⟩ = some (.int .i64 a0_2) := (blk_cell BK234.out 2).trans rfl; have hcz16_3 : w15.cell? ⟨gb234, 3, none⟩ = some (.int .i64 a0_3) := (blk_cell BK234.out 3).trans rfl; have hcz16_4 : w15.cell? ⟨gb234, 4, none⟩ = some (.int .u64 a0_4) := (blk_cell BK234.out 4).trans rfl; have hcz16_5 : w15.cell? ⟨gb234, 5, none⟩ = some (.int .u32 a0_5) := (blk_cell BK234.out 5).trans rfl; have hfz16_0 := blk_frozen BK234.out 0; have hfz16_1 := blk_frozen BK234.out 1; have hfz16_2 := blk_frozen BK234.out 2; have hfz16_3 := blk_frozen BK234.out 3; have hfz16_4 := blk_frozen BK234.out 4; have hfz16_5 := blk_frozen BK234.out 5) | ((with_reducible refine gate_dst (N := 22) rfl ?_); refine Kd.R_lit (Kd.int .u8) _ 5 ?hg (N := 22) ?hd (xs := ([75, 69, 69, 80, 1, (a0_0) % 256, (a0_1) % 256, (a0_2) % 256] : List Int)) (inner := [.int .u8 75, .int .u8 69, .int .u8 69, .int .u8 80, .int .u8 1, .int .u8 ((a0_0) % 256), .int .u8 ((a0_1) % 256), .int .u8 ((a0_2) % 256)]) (ok := fun _ => True) (okp := fun _ => True) ?hr ?hp (fun _ hk => hk) trivial (Below.refl _ _) (Nat.le_refl _) (by simp) ?_; (case hd => rfl); (case hg => rfl); (case hr => first | (go_simp; done) | (go_simp; rfl)); (case hp => exact (Reps.one (show Kd.M (Kd.int .u8) _ _ _ 75 [.int .u8 75] from rfl) (Reps.one (show Kd.M (Kd.int .u8) _ _ _ 69 [.int .u8 69] from rfl) (Reps.one (show Kd.M (Kd.int .u8) _ _ _ 69 [.int .u8 69] from rfl) (Reps.one (show Kd.M (Kd.int .u8) _ _ _ 80 [.int .u8 80] from rfl) (Reps.one (show Kd.M (Kd.int .u8) _ _ _ 1 [.int .u8 1] from rfl) (Reps.one (show Kd.M (Kd.int .u8) _ _ _ ((a0_0) % 256) [.int .u8 ((a0_0) % 256)] from rfl) (Reps.one (show Kd.M (Kd.int .u8) _ _ _ ((a0_1) % 256) [.int .u8 ((a0_1) % 256)] from rfl) (Reps.one (show Kd.M (Kd.int .u8) _ _ _ ((a0_2) % 256) [.int .u8 ((a0_2) % 256)] from rfl) (Reps.none _ _)))))))))); intro v237 w17 ho18 hb hg_ hnew_; clear hg_ hnew_; (first | rw [← Ny236.out] at ho18 | (simp only [Int.reduceToNat] at ho18; rw [← Ny236.out] at ho18)); have n0_ := Aside0.mk (Kd.R_lower ho18 (below_size (by repeat (first | (with_reducible first | exact HB.out | apply below_alloc | apply pw_below_drewN | apply below_drew1 | refine below_set ?_ GE234.out) | exact HB.out)))); have n1_ := Aside0.mk (blk_below (g := gb234) (o := .cells #[.int .i64 a0_0, .int .i64 a0_1, .int .i64 a0_2, .int .i64 a0_3, .int .u64 a0_4, .int .u32 a0_5] 27 (0, 0)) (by (with_reducible repeat (first | refine blk_drewN ?_ _ | refine blk_drew ?_ | refine blk_alloc ?_ _)); exact BK234.out) hb); have n2_ := Aside0.mk (below_step (by repeat (first | (with_reducible first | exact HB.out | apply below_alloc | apply pw_below_drewN | apply below_drew1 | refine below_set ?_ GE234.out) | exact HB.out)) hb); clear BK234; clear HB; have HO238 := n0_; have BK234 := n1_; have HB := n2_; clear n0_ n1_ n2_; clear hb ho18; have hcz19_0 : w17.cell? ⟨gb234, 0, none⟩ = some (.int .i64 a0_0) := (blk_cell BK234.out 0).trans rfl; have hcz19_1 : w17.cell? ⟨gb234, 1, none⟩ = some (.int .i64 a0_1) := (blk_cell BK234.out 1).trans rfl; have hcz19_2 : w17.cell? ⟨gb234, 2, none⟩ = some (.int .i64 a0_2) := (blk_cell BK234.out 2).trans rfl; have hcz19_3 : w17.cell? ⟨gb234, 3, none⟩ = some (.int .i64 a0_3) := (blk_cell BK234.out 3).trans rfl; have hcz19_4 : w17.cell? ⟨gb234, 4, none⟩ = some (.int .u64 a0_4) := (blk_cell BK234.out 4).trans rfl; have hcz19_5 : w17.cell? ⟨gb234, 5, none⟩ = some (.int .u32 a0_5) := (blk_cell BK234.out 5).trans rfl; have hfz19_0 := blk_frozen BK234.out 0; have hfz19_1 := blk_frozen BK234.out 1; have hfz19_2 := blk_frozen BK234.out 2; have hfz19_3 := blk_frozen BK234.out 3; have hfz19_4 := blk_frozen BK234.out 4; have hfz19_5 := blk_frozen BK234.out 5) | ((with_reducible refine gate_callee (f := 15) rfl ?_); refine goesL_ (some 27) rfl rfl Tryd.func15 (by kernel_rfl) rfl #[.int .u64 (IntKind.u64.wrap (a0_3)), .int .i64 4] rfl (by (try simp only [List.map_toArray, List.map_cons, List.map_nil]); first | done | rfl | (simp only [List.length_drop, List.length_take]; rfl)) ?_; (with_reducible refine (keepsakeref04_Bytes.calls k (IntKind.u64.wrap (a0_3)) 4 t239 _ A4.out).mono ?_); rintro e w20 ⟨v240, rfl, ho0, hb⟩; refine ⟨_, rfl, ?_⟩; have n0_ := Aside0.mk (Kd.R_elder' (by (with_reducible repeat (first | apply Kd.R_alloc | apply Kd.R_drewN | apply Kd.R_drew)); exact HO238.out) (Kd.R_base ho0) hb); have n1_ := Aside0.mk (Kd.R_lower (Kd.R_new' ho0 (Kd.R_lt (by (with_reducible repeat (first | apply Kd.R_alloc | apply Kd.R_drewN | apply Kd.R_drew)); exact HO238.out))) (below_size (by repeat (first | (with_reducible first | exact HB.out | apply below_alloc | apply pw_below_drewN | apply below_drew1 | refine below_set ?_ GE234.out) | exact HB.out)))); have n2_ := Aside0.mk (blk_below (g := gb234) (o := .cells #[.int .i64 a0_0, .int .i64 a0_1, .int .i64 a0_2, .int .i64 a0_3, .int .u64 a0_4, .int .u32 a0_5] 27 (0, 0)) (by (with_reducible repeat (first | refine blk_drewN ?_ _ | refine blk_drew ?_ | refine blk_alloc ?_ _)); exact BK234.out) hb); have n3_ := Aside0.mk (below_step (by repeat (first | (with_reducible first | exact HB.out | apply below_alloc | apply pw_below_drewN | apply below_drew1 | refine below_set ?_ GE234.out) | exact HB.out)) hb); clear HO238; clear BK234; clear HB; have HO238 := n0_; have HO241 := n1_; have BK234 := n2_; have HB := n3_; clear n0_ n1_ n2_ n3_; (try clear hb); (try clear hb2); (try clear hk); (try clear hi); (try clear ho0); obtain ⟨Ao22, co22, eo22⟩ := Kd.R_slice HO241.out; subst eo22) | ((with_reducible refine gate_builtin (b := .append) (xs := #[.tmp 23, .tmp 27]) rfl ?_); at_builtin; refine Kd.R_append_rows (Kd.int .u8) (w0 := w) w.heap.size rfl (.tmp 23) (.tmp 27) 29 5 (.int .u8 0) 1 rfl Tryd.underlying29 info5 rfl (by decide) (by omega) v237 y236 t239 _ _ _ (fun k_ => some k_ ≠ (.slice Ao22 t239.length co22 : Value).ownBlock) (fun _ => False) rfl rfl ?aO ?aR (fun _ _ h => h) (fun _ h => h.elim) ?aF ?aB ?aS ?aL ?_; (case aR => repeat (first | exact (Kd.R_reads' HO241.out).2.2 | (with_reducible refine Kd.C_alloc ?_ _) | (with_reducible refine Kd.C_drewN ?_ _) | (with_reducible refine Kd.C_drew ?_))); (case aB => exact (by repeat (first | (with_reducible first | exact HB.out | apply below_alloc | apply pw_below_drewN | apply below_drew1 | refine below_set ?_ GE234.out) | exact HB.out))); (case aF => exact (fun k_ hk => Kd.fresh' (Kd.R_lt (by (with_reducible repeat (first | apply Kd.R_alloc | apply Kd.R_drewN | apply Kd.R_drew)); exact HO241.out)) k_ hk)); (case aO => exact (by (with_reducible repeat (first | apply Kd.R_alloc | apply Kd.R_drewN | apply Kd.R_drew)); exact Kd.R_mono HO238.out (fun _ hk => hk.2))); (case aS => exact (below_size (by repeat (first | (with_reducible first | exact HB.out | apply below_alloc | apply pw_below_drewN | apply below_drew1 | refine below_set ?_ GE234.out) | exact HB.out)))); (case aL => have := LMc5.out; omega); intro v243 w21 ho hb hg hat; (first | rw [← Ny242.out] at ho | (simp only [Int.reduceToNat] at ho; rw [← Ny242.out] at ho)); have n0_ := Aside0.mk (blk_grown (g := gb234) (o := .cells #[.int .i64 a0_0, .int .i64 a0_1, .int .i64 a0_2, .int .i64 a0_3, .int .u64 a0_4, .int .u32 a0_5] 27 (0, 0)) (by (with_reducible repeat (first | refine blk_drewN ?_ _ | refine blk_drew ?_ | refine blk_alloc ?_ _)); exact BK234.out) hg (Kd.R_ne HO238.out BK234.out (by decide))); have n1_ := Aside0.mk (Kd.R_after (ok := (fun _ => True)) (by (with_reducible repeat (first | apply Kd.R_alloc | apply Kd.R_drewN | apply Kd.R_drew)); exact HO241.out) hg hat); have n2_ := Aside0.mk (hb); have n3_ := Aside0.mk (ho); clear BK234; clear HO241; clear HB; clear HO238; have BK234 := n0_; have HO241 := n1_; have HB := n2_; have HO244 := n3_; clear n0_ n1_ n2_ n3_; clear ho hb hg hat; have hcz23_0 : w21.cell? ⟨gb234, 0, none⟩ = some (.int .i64 a0_0) := (blk_cell BK234.out 0).trans rfl; have hcz23_1 : w21.cell? ⟨gb234, 1, none⟩ = some (.int .i64 a0_1) := (blk_cell BK234.out 1).trans rfl; have hcz23_2 : w21.cell? ⟨gb234, 2, none⟩ = some (.int .i64 a0_2) := (blk_cell BK234.out 2).trans rfl; have hcz23_3 : w21.cell? ⟨gb234, 3, none⟩ = some (.int .i64 a0_3) := (blk_cell BK234.out 3).trans rfl; have hcz23_4 : w21.cell? ⟨gb234, 4, none⟩ = some (.int .u64 a0_4) := (blk_cell BK234.out 4).trans rfl; have hcz23_5 : w21.cell? ⟨gb234, 5, none⟩ = some (.int .u32 a0_5) := (blk_cell BK234.out 5).trans rfl; have hfz23_0 := blk_frozen BK234.out 0; have hfz23_1 := blk_frozen BK234.out 1; have hfz23_2 := blk_frozen BK234.out 2; have hfz23_3 := blk_frozen BK234.out 3; have hfz23_4 := blk_frozen BK234.out 4; have hfz23_5 := blk_frozen BK234.out 5) | ((with_reducible refine gate_callee (f := 15) rfl ?_); refine goesL_ (some 32) rfl rfl Tryd.func15 (by kernel_rfl) rfl #[.int .u64 a0_4, .int .i64 8] rfl (by (try simp only [List.map_toArray, List.map_cons, List.map_nil]); first | done | rfl | (simp only [List.length_drop, List.length_take]; rfl)) ?_; (with_reducible refine (keepsakeref04_Bytes.calls k a0_4 8 t245 _ A6.out).mono ?_); rintro e w24 ⟨v246, rfl, ho0, hb⟩; refine ⟨_, rfl, ?_⟩; have n0_ := Aside0.mk (Kd.R_elder' (by (with_reducible repeat (first | apply Kd.R_alloc | apply Kd.R_drewN | apply Kd.R_drew)); exact HO241.out) (Kd.R_base ho0) hb); have n1_ := Aside0.mk (Kd.R_elder' (by (with_reducible repeat (first | apply Kd.R_alloc | apply Kd.R_drewN | apply Kd.R_drew)); exact HO244.out) (Kd.R_base ho0) hb); have n2_ := Aside0.mk (Kd.R_lower (Kd.R_new' (Kd.R_new' ho0 (Kd.R_lt (by (with_reducible repeat (first | apply Kd.R_alloc | apply Kd.R_drewN | apply Kd.R_drew)); exact HO241.out))) (Kd.R_lt (by (with_reducible repeat (first | apply Kd.R_alloc | apply Kd.R_drewN | apply Kd.R_drew)); exact HO244.out))) (below_size (by repeat (first | (with_reducible first | exact HB.out | apply below_alloc | apply pw_below_drewN | apply below_drew1 | refine below_set ?_ GE234.out) | exact HB.out)))); have n3_ := Aside0.mk (blk_below (g := gb234) (o := .cells #[.int .i64 a0_0, .int .i64 a0_1, .int .i64 a0_2, .int .i64 a0_3, .int .u64 a0_4, .int .u32 a0_5] 27 (0, 0)) (by (with_reducible repeat (first | refine blk_drewN ?_ _ | refine blk_drew ?_ | refine blk_alloc ?_ _)); exact BK234.out) hb); have n4_ := Aside0.mk (below_step (by repeat (first | (with_reducible first | exact HB.out | apply below_alloc | apply pw_below_drewN | apply below_drew1 | refine below_set ?_ GE234.out) | exact HB.out)) hb); clear HO241; clear HO244; clear BK234; clear HB; have HO241 := n0_; have HO244 := n1_; have HO247 := n2_; have BK234 := n3_; have HB := n4_; clear n0_ n1_ n2_ n3_ n4_; (try clear hb); (try clear hb2); (try clear hk); (try clear hi); (try clear ho0); obtain ⟨Ao26, co26, eo26⟩ := Kd.R_slice HO247.out; subst eo26) | ((with_reducible refine gate_builtin (b := .append) (xs := #[.tmp 29, .tmp 32]) rfl ?_); at_builtin; refine Kd.R_append_rows (Kd.int .u8) (w0 := w) w.heap.size rfl (.tmp 29) (.tmp 32) 29 5 (.int .u8 0) 1 rfl Tryd.underlying29 info5 rfl (by decide) (by omega) v243 y242 t245 _ _ _ (fun k_ => some k_ ≠ (.slice Ao22 t239.length co22 : Value).ownBlock ∧ some k_ ≠ (.slice Ao26 t245.length co26 : Value).ownBlock) (fun _ => False) rfl rfl ?aO ?aR (fun _ _ h => h) (fun _ h => h.elim) ?aF ?aB ?aS ?aL ?_; (case aR => repeat (first | exact (Kd.R_reads' HO247.out).2.2 | (with_reducible refine Kd.C_alloc ?_ _) | (with_reducible refine Kd.C_drewN ?_ _) | (with_reducible refine Kd.C_drew ?_))); (case aB => exact (by repeat (first | (with_reducible first | exact HB.out | apply below_alloc | apply pw_below_drewN | apply below_drew1 | refine below_set ?_ GE234.out) | exact HB.out))); (case aF => exact (fun k_ hk => ⟨Kd.fresh' (Kd.R_lt (by (with_reducible repeat (first | apply Kd.R_alloc | apply Kd.R_drewN | apply Kd.R_drew)); exact HO241.out)) k_ hk, Kd.fresh' (Kd.R_lt (by (with_reducible repeat (first | apply Kd.R_alloc | apply Kd.R_drewN | apply Kd.R_drew)); exact HO247.out)) k_ hk⟩)); (case aO => exact (by (with_reducible repeat (first | apply Kd.R_alloc | apply Kd.R_drewN | apply Kd.R_drew)); exact HO244.out)); (case aS => exact (below_size (by repeat (first | (with_reducible first | exact HB.out | apply below_alloc | apply pw_below_drewN | apply below_drew1 | refine below_set ?_ GE234.out) | exact HB.out)))); (case aL => have := LMc7.out; omega); intro v249 w25 ho hb hg hat; (first | rw [← Ny248.out] at ho | (simp only [Int.reduceToNat] at ho; rw [← Ny248.out] at ho)); have n0_ := Aside0.mk (blk_grown (g := gb234) (o := .cells #[.int .i64 a0_0, .int .i64 a0_1, .int .i64 a0_2, .int .i64 a0_3, .int .u64 a0_4, .int .u32 a0_5] 27 (0, 0)) (by (with_reducible repeat (first | refine blk_drewN ?_ _ | refine blk_drew ?_ | refine blk_alloc ?_ _)); exact BK234.out) hg (Kd.R_ne HO244.out BK234.out (by decide))); have n1_ := Aside0.mk (Kd.R_after (ok := (fun k_ => some k_ ≠ (.slice Ao26 t245.length co26 : Value).ownBlock)) (by (with_reducible repeat (first | apply Kd.R_alloc | apply Kd.R_drewN | apply Kd.R_drew)); exact Kd.R_mono HO241.out (fun _ hk => ⟨hk.2, hk.1.2⟩)) hg hat); have n2_ := Aside0.mk (Kd.R_after (ok := (fun k_ => some k_ ≠ (.slice Ao22 t239.length co22 : Value).ownBlock)) (by (with_reducible repeat (first | apply Kd.R_alloc | apply Kd.R_drewN | apply Kd.R_drew)); exact Kd.R_mono HO247.out (fun _ hk => ⟨hk.1.2, hk.2⟩)) hg hat); have n3_ := Aside0.mk (hb); have n4_ := Aside0.mk (ho); clear BK234; clear HO241; clear HO247; clear HB; clear HO244; have BK234 := n0_; have HO241 := n1_; have HO247 := n2_; have HB := n3_; have HO250 := n4_; clear n0_ n1_ n2_ n3_ n4_; clear ho hb hg hat; have hcz27_0 : w25.cell? ⟨gb234, 0, none⟩ = some (.int .i64 a0_0) := (blk_cell BK234.out 0).trans rfl; have hcz27_1 : w25.cell? ⟨gb234, 1, none⟩ = some (.int .i64 a0_1) := (blk_cell BK234.out 1).trans rfl; have hcz27_2 : w25.cell? ⟨gb234, 2, none⟩ = some (.int .i64 a0_2) := (blk_cell BK234.out 2).trans rfl; have hcz27_3 : w25.cell? ⟨gb234, 3, none⟩ = some (.int .i64 a0_3) := (blk_cell BK234.out 3).trans rfl; have hcz27_4 : w25.cell? ⟨gb234, 4, none⟩ = some (.int .u64 a0_4) := (blk_cell BK234.out 4).trans rfl; have hcz27_5 : w25.cell? ⟨gb234, 5, none⟩ = some (.int .u32 a0_5) := (blk_cell BK234.out 5).trans rfl; have hfz27_0 := blk_frozen BK234.out 0; have hfz27_1 := blk_frozen BK234.out 1; have hfz27_2 := blk_frozen BK234.out 2; have hfz27_3 := blk_frozen BK234.out 3; have hfz27_4 := blk_frozen BK234.out 4; have hfz27_5 := blk_frozen BK234.out 5) | ((with_reducible refine gate_callee (f := 15) rfl ?_); refine goesL_ (some 38) rfl rfl Tryd.func15 (by kernel_rfl) rfl #[.int .u64 (IntKind.u64.wrap (a0_5)), .int .i64 4] rfl (by (try simp only [List.map_toArray, List.map_cons, List.map_nil]); first | done | rfl | (simp only [List.length_drop, List.length_take]; rfl)) ?_; (with_reducible refine (keepsakeref04_Bytes.calls k (IntKind.u64.wrap (a0_5)) 4 t251 _ A8.out).mono ?_); rintro e w28 ⟨v252, rfl, ho0, hb⟩; refine ⟨_, rfl, ?_⟩; have n0_ := Aside0.mk (Kd.R_elder' (by (with_reducible repeat (first | apply Kd.R_alloc | apply Kd.R_drewN | apply Kd.R_drew)); exact HO241.out) (Kd.R_base ho0) hb); have n1_ := Aside0.mk (Kd.R_elder' (by (with_reducible repeat (first | apply Kd.R_alloc | apply Kd.R_drewN | apply Kd.R_drew)); exact HO247.out) (Kd.R_base ho0) hb); have n2_ := Aside0.mk (Kd.R_elder' (by (with_reducible repeat (first | apply Kd.R_alloc | apply Kd.R_drewN | apply Kd.R_drew)); exact HO250.out) (Kd.R_base ho0) hb); have n3_ := Aside0.mk (Kd.R_lower (Kd.R_new' (Kd.R_new' (Kd.R_new' ho0 (Kd.R_lt (by (with_reducible repeat (first | apply Kd.R_alloc | apply Kd.R_drewN | apply Kd.R_drew)); exact HO241.out))) (Kd.R_lt (by (with_reducible repeat (first | apply Kd.R_alloc | apply Kd.R_drewN | apply Kd.R_drew)); exact HO247.out))) (Kd.R_lt (by (with_reducible repeat (first | apply Kd.R_alloc | apply Kd.R_drewN | apply Kd.R_drew)); exact HO250.out))) (below_size (by repeat (first | (with_reducible first | exact HB.out | apply below_alloc | apply pw_below_drewN | apply below_drew1 | refine below_set ?_ GE234.out) | exact HB.out)))); have n4_ := Aside0.mk (blk_below (g := gb234) (o := .cells #[.int .i64 a0_0, .int .i64 a0_1, .int .i64 a0_2, .int .i64 a0_3, .int .u64 a0_4, .int .u32 a0_5] 27 (0, 0)) (by (with_reducible repeat (first | refine blk_drewN ?_ _ | refine blk_drew ?_ | refine blk_alloc ?_ _)); exact BK234.out) hb); have n5_ := Aside0.mk (below_step (by repeat (first | (with_reducible first | exact HB.out | apply below_alloc | apply pw_below_drewN | apply below_drew1 | refine below_set ?_ GE234.out) | exact HB.out)) hb); clear HO241; clear HO247; clear HO250; clear BK234; clear HB; have HO241 := n0_; have HO247 := n1_; have HO250 := n2_; have HO253 := n3_; have BK234 := n4_; have HB := n5_; clear n0_ n1_ n2_ n3_ n4_ n5_; (try clear hb); (try clear hb2); (try clear hk); (try clear hi); (try clear ho0); obtain ⟨Ao30, co30, eo30⟩ := Kd.R_slice HO253.out; subst eo30) | ((with_reducible refine gate_builtin (b := .append) (xs := #[.tmp 34, .tmp 38]) rfl ?_); at_builtin; refine Kd.R_append_rows (Kd.int .u8) (w0 := w) w.heap.size rfl (.tmp 34) (.tmp 38) 29 5 (.int .u8 0) 1 rfl Tryd.underlying29 info5 rfl (by decide) (by omega) v249 y248 t251 _ _ _ (fun k_ => some k_ ≠ (.slice Ao22 t239.length co22 : Value).ownBlock ∧ some k_ ≠ (.slice Ao26 t245.length co26 : Value).ownBlock ∧ some k_ ≠ (.slice Ao30 t251.length co30 : Value).ownBlock) (fun _ => False) rfl rfl ?aO ?aR (fun _ _ h => h) (fun _ h => h.elim) ?aF ?aB ?aS ?aL ?_; (case aR => repeat (first | exact (Kd.R_reads' HO253.out).2.2 | (with_reducible refine Kd.C_alloc ?_ _) | (with_reducible refine Kd.C_drewN ?_ _) | (with_reducible refine Kd.C_drew ?_))); (case aB => exact (by repeat (first | (with_reducible first | exact HB.out | apply below_alloc | apply pw_below_drewN | apply below_drew1 | refine below_set ?_ GE234.out) | exact HB.out))); (case aF => exact (fun k_ hk => ⟨Kd.fresh' (Kd.R_lt (by (with_reducible repeat (first | apply Kd.R_alloc | apply Kd.R_drewN | apply Kd.R_drew)); exact HO241.out)) k_ hk, Kd.fresh' (Kd.R_lt (by (with_reducible repeat (first | apply Kd.R_alloc | apply Kd.R_drewN | apply Kd.R_drew)); exact HO247.out)) k_ hk, Kd.fresh' (Kd.R_lt (by (with_reducible repeat (first | apply Kd.R_alloc | apply Kd.R_drewN | apply Kd.R_drew)); exact HO253.out)) k_ hk⟩)); (case aO => exact (by (with_reducible repeat (first | apply Kd.R_alloc | apply Kd.R_drewN | apply Kd.R_drew)); exact Kd.R_mono HO250.out (fun _ hk => ⟨hk.1.1, ⟨hk.1.2, hk.2⟩⟩))); (case aS => exact (below_size (by repeat (first | (with_reducible first | exact HB.out | apply below_alloc | apply pw_below_drewN | apply below_drew1 | refine below_set ?_ GE234.out) | exact HB.out)))); (case aL => have := LMc9.out; omega); intro v255 w29 ho hb hg hat; (first | rw [← Ny254.out] at ho | (simp only [Int.reduceToNat] at ho; rw [← Ny254.out] at ho)); have n0_ := Aside0.mk (blk_grown (g := gb234) (o := .cells #[.int .i64 a0_0, .int .i64 a0_1, .int .i64 a0_2, .int .i64 a0_3, .int .u64 a0_4, .int .u32 a0_5] 27 (0, 0)) (by (with_reducible repeat (first | refine blk_drewN ?_ _ | refine blk_drew ?_ | refine blk_alloc ?_ _)); exact BK234.out) hg (Kd.R_ne HO250.out BK234.out (by decide))); have n1_ := Aside0.mk (Kd.R_after (ok := (fun k_ => some k_ ≠ (.slice Ao26 t245.length co26 : Value).ownBlock ∧ some k_ ≠ (.slice Ao30 t251.length co30 : Value).ownBlock)) (by (with_reducible repeat (first | apply Kd.R_alloc | apply Kd.R_drewN | apply Kd.R_drew)); exact Kd.R_mono HO241.out (fun _ hk => ⟨⟨hk.1.1, hk.2⟩, hk.1.2⟩)) hg hat); have n2_ := Aside0.mk (Kd.R_after (ok := (fun k_ => some k_ ≠ (.slice Ao22 t239.length co22 : Value).ownBlock ∧ some k_ ≠ (.slice Ao30 t251.length co30 : Value).ownBlock)) (by (with_reducible repeat (first | apply Kd.R_alloc | apply Kd.R_drewN | apply Kd.R_drew)); exact Kd.R_mono HO247.out (fun _ hk => ⟨⟨hk.1.1, hk.2⟩, hk.1.2⟩)) hg hat); have n3_ := Aside0.mk (Kd.R_after (ok := (fun k_ => some k_ ≠ (.slice Ao22 t239.length co22 : Value).ownBlock ∧ some k_ ≠ (.slice Ao26 t245.length co26 : Value).ownBlock)) (by (with_reducible repeat (first | apply Kd.R_alloc | apply Kd.R_drewN | apply Kd.R_drew)); exact Kd.R_mono HO253.out (fun _ hk => ⟨⟨hk.1.1.2, hk.1.2⟩, hk.2⟩)) hg hat); have n4_ := Aside0.mk (hb); have n5_ := Aside0.mk (ho); clear BK234; clear HO241; clear HO247; clear HO253; clear HB; clear HO250; have BK234 := n0_; have HO241 := n1_; have HO247 := n2_; have HO253 := n3_; have HB := n4_; have HO256 := n5_; clear n0_ n1_ n2_ n3_ n4_ n5_; clear ho hb hg hat; obtain ⟨Ao31, co31, eo31⟩ := Kd.R_slice HO256.out; subst eo31) | ((with_reducible refine gate_callee (f := 24) rfl ?_); refine goesL_ (some 42) rfl rfl Tryd.func24 (by kernel_rfl) rfl #[.slice Ao31 y254.length co31] rfl (by (try simp only [List.map_toArray, List.map_cons, List.map_nil]); first | done | rfl | (simp only [List.length_drop, List.length_take]; rfl)) ?_; (with_reducible refine (keepsakeref01_Sum.calls k _ _ y254 t257 _ ?side1 ?side2 A10.out).mono ?_); (case side1 => repeat (first | exact (Kd.R_reads' HO256.out).2.2 | (with_reducible refine Kd.C_alloc ?_ _) | (with_reducible refine Kd.C_drewN ?_ _) | (with_reducible refine Kd.C_drew ?_))); (case side2 => exact (Kd.R_reads' HO256.out).2.1); rintro e w32 ⟨rfl, hb⟩; refine ⟨_, rfl, ?_⟩; have n0_ := Aside0.mk (Kd.R_below (by (with_reducible repeat (first | apply Kd.R_alloc | apply Kd.R_drewN | apply Kd.R_drew)); exact HO241.out) hb); have n1_ := Aside0.mk (Kd.R_below (by (with_reducible repeat (first | apply Kd.R_alloc | apply Kd.R_drewN | apply Kd.R_drew)); exact HO247.out) hb); have n2_ := Aside0.mk (Kd.R_below (by (with_reducible repeat (first | apply Kd.R_alloc | apply Kd.R_drewN | apply Kd.R_drew)); exact HO253.out) hb); have n3_ := Aside0.mk (Kd.R_below (by (with_reducible repeat (first | apply Kd.R_alloc | apply Kd.R_drewN | apply Kd.R_drew)); exact HO256.out) hb); have n4_ := Aside0.mk (blk_below (g := gb234) (o := .cells #[.int .i64 a0_0, .int .i64 a0_1, .int .i64 a0_2, .int .i64 a0_3, .int .u64 a0_4, .int .u32 a0_5] 27 (0, 0)) (by (with_reducible repeat (first | refine blk_drewN ?_ _ | refine blk_drew ?_ | refine blk_alloc ?_ _)); exact BK234.out) hb); have n5_ := Aside0.mk (below_step (by repeat (first | (with_reducible first | exact HB.out | apply below_alloc | apply pw_below_drewN | apply below_drew1 | refine below_set ?_ GE234.out) | exact HB.out)) hb); clear HO241; clear HO247; clear HO253; clear HO256; clear BK234; clear HB; have HO241 := n0_; have HO247 := n1_; have HO253 := n2_; have HO256 := n3_; have BK234 := n4_; have HB := n5_; clear n0_ n1_ n2_ n3_ n4_ n5_; (try clear hb); (try clear hb2); (try clear hk); (try clear hi)) | ((with_reducible refine gate_callee (f := 15) rfl ?_); refine goesL_ (some 44) rfl rfl Tryd.func15 (by kernel_rfl) rfl #[.int .u64 (IntKind.u64.wrap (t257)), .int .i64 4] rfl (by (try simp only [List.map_toArray, List.map_cons, List.map_nil]); first | done | rfl | (simp only [List.length_drop, List.length_take]; rfl)) ?_; (with_reducible refine (keepsakeref04_Bytes.calls k (IntKind.u64.wrap (t257)) 4 t258 _ A11.out).mono ?_); rintro e w33 ⟨v259, rfl, ho0, hb⟩; refine ⟨_, rfl, ?_⟩; have n0_ := Aside0.mk (Kd.R_elder' (by (with_reducible repeat (first | apply Kd.R_alloc | apply Kd.R_drewN | apply Kd.R_drew)); exact HO241.out) (Kd.R_base ho0) hb); have n1_ := Aside0.mk (Kd.R_elder' (by (with_reducible repeat (first | apply Kd.R_alloc | apply Kd.R_drewN | apply Kd.R_drew)); exact HO247.out) (Kd.R_base ho0) hb); have n2_ := Aside0.mk (Kd.R_elder' (by (with_reducible repeat (first | apply Kd.R_alloc | apply Kd.R_drewN | apply Kd.R_drew)); exact HO253.out) (Kd.R_base ho0) hb); have n3_ := Aside0.mk (Kd.R_elder' (by (with_reducible repeat (first | apply Kd.R_alloc | apply Kd.R_drewN | apply Kd.R_drew)); exact HO256.out) (Kd.R_base ho0) hb); have n4_ := Aside0.mk (Kd.R_lower (Kd.R_new' (Kd.R_new' (Kd.R_new' (Kd.R_new' ho0 (Kd.R_lt (by (with_reducible repeat (first | apply Kd.R_alloc | apply Kd.R_drewN | apply Kd.R_drew)); exact HO241.out))) (Kd.R_lt (by (with_reducible repeat (first | apply Kd.R_alloc | apply Kd.R_drewN | apply Kd.R_drew)); exact HO247.out))) (Kd.R_lt (by (with_reducible repeat (first | apply Kd.R_alloc | apply Kd.R_drewN | apply Kd.R_drew)); exact HO253.out))) (Kd.R_lt (by (with_reducible repeat (first | apply Kd.R_alloc | apply Kd.R_drewN | apply Kd.R_drew)); exact HO256.out))) (below_size (by repeat (first | (with_reducible first | exact HB.out | apply below_alloc | apply pw_below_drewN | apply below_drew1 | refine below_set ?_ GE234.out) | exact HB.out)))); have n5_ := Aside0.mk (blk_below (g := gb234) (o := .cells #[.int .i64 a0_0, .int .i64 a0_1, .int .i64 a0_2, .int .i64 a0_3, .int .u64 a0_4, .int .u32 a0_5] 27 (0, 0)) (by (with_reducible repeat (first | refine blk_drewN ?_ _ | refine blk_drew ?_ | refine blk_alloc ?_ _)); exact BK234.out) hb); have n6_ := Aside0.mk (below_step (by repeat (first | (with_reducible first | exact HB.out | apply below_alloc | apply pw_below_drewN | apply below_drew1 | refine below_set ?_ GE234.out) | exact HB.out)) hb); clear HO241; clear HO247; clear HO253; clear HO256; clear BK234; clear HB; have HO241 := n0_; have HO247 := n1_; have HO253 := n2_; have HO256 := n3_; have HO260 := n4_; have BK234 := n5_; have HB := n6_; clear n0_ n1_ n2_ n3_ n4_ n5_ n6_; (try clear hb); (try clear hb2); (try clear hk); (try clear hi); (try clear ho0); obtain ⟨Ao35, co35, eo35⟩ := Kd.R_slice HO260.out; subst eo35) | ((with_reducible refine gate_builtin (b := .append) (xs := #[.tmp 40, .tmp 44]) rfl ?_); at_builtin; refine Kd.R_append_rows (Kd.int .u8) (w0 := w) w.heap.size rfl (.tmp 40) (.tmp 44) 29 5 (.int .u8 0) 1 rfl Tryd.underlying29 info5 rfl (by decide) (by omega) (.slice Ao31 y254.length co31) y254 t258 _ _ _ (fun k_ => some k_ ≠ (.slice Ao22 t239.length co22 : Value).ownBlock ∧ some k_ ≠ (.slice Ao26 t245.length co26 : Value).ownBlock ∧ some k_ ≠ (.slice Ao30 t251.length co30 : Value).ownBlock ∧ some k_ ≠ (.slice Ao35 t258.length co35 : Value).ownBlock) (fun _ => False) rfl rfl ?aO ?aR (fun _ _ h => h) (fun _ h => h.elim) ?aF ?aB ?aS ?aL ?_; (case aR => repeat (first | exact (Kd.R_reads' HO260.out).2.2 | (with_reducible refine Kd.C_alloc ?_ _) | (with_reducible refine Kd.C_drewN ?_ _) | (with_reducible refine Kd.C_drew ?_))); (case aB => exact (by repeat (first | (with_reducible first | exact HB.out | apply below_alloc | apply pw_below_drewN | apply below_drew1 | refine below_set ?_ GE234.out) | exact HB.out))); (case aF => exact (fun k_ hk => ⟨Kd.fresh' (Kd.R_lt (by (with_reducible repeat (first | apply Kd.R_alloc | apply Kd.R_drewN | apply Kd.R_drew)); exact HO241.out)) k_ hk, Kd.fresh' (Kd.R_lt (by (with_reducible repeat (first | apply Kd.R_alloc | apply Kd.R_drewN | apply Kd.R_drew)); exact HO247.out)) k_ hk, Kd.fresh' (Kd.R_lt (by (with_reducible repeat (first | apply Kd.R_alloc | apply Kd.R_drewN | apply Kd.R_drew)); exact HO253.out)) k_ hk, Kd.fresh' (Kd.R_lt (by (with_reducible repeat (first | apply Kd.R_alloc | apply Kd.R_drewN | apply Kd.R_drew)); exact HO260.out)) k_ hk⟩)); (case aO => exact (by (with_reducible repeat (first | apply Kd.R_alloc | apply Kd.R_drewN | apply Kd.R_drew)); exact Kd.R_mono HO256.out (fun _ hk => ⟨hk.1.1, ⟨hk.1.2.1, ⟨hk.1.2.2, hk.2⟩⟩⟩))); (case aS => exact (below_size (by repeat (first | (with_reducible first | exact HB.out | apply below_alloc | apply pw_below_drewN | apply below_drew1 | refine below_set ?_ GE234.out) | exact HB.out)))); (case aL => have := LMc12.out; omega); intro v262 w34 ho hb hg hat; (first | rw [← Ny261.out] at ho | (simp only [Int.reduceToNat] at ho; rw [← Ny261.out] at ho)); have n0_ := Aside0.mk (blk_grown (g := gb234) (o := .cells #[.int .i64 a0_0, .int .i64 a0_1, .int .i64 a0_2, .int .i64 a0_3, .int .u64 a0_4, .int .u32 a0_5] 27 (0, 0)) (by (with_reducible repeat (first | refine blk_drewN ?_ _ | refine blk_drew ?_ | refine blk_alloc ?_ _)); exact BK234.out) hg (Kd.R_ne HO256.out BK234.out (by decide))); have n1_ := Aside0.mk (Kd.R_after (ok := (fun k_ => some k_ ≠ (.slice Ao26 t245.length co26 : Value).ownBlock ∧ some k_ ≠ (.slice Ao30 t251.length co30 : Value).ownBlock ∧ some k_ ≠ (.slice Ao35 t258.length co35 : Value).ownBlock)) (by (with_reducible repeat (first | apply Kd.R_alloc | apply Kd.R_drewN | apply Kd.R_drew)); exact Kd.R_mono HO241.out (fun _ hk => ⟨⟨hk.1.1.1, ⟨hk.1.1.2, hk.2⟩⟩, hk.1.2⟩)) hg hat); have n2_ := Aside0.mk (Kd.R_after (ok := (fun k_ => some k_ ≠ (.slice Ao22 t239.length co22 : Value).ownBlock ∧ some k_ ≠ (.slice Ao30 t251.length co30 : Value).ownBlock ∧ some k_ ≠ (.slice Ao35 t258.length co35 : Value).ownBlock)) (by (with_reducible repeat (first | apply Kd.R_alloc | apply Kd.R_drewN | apply Kd.R_drew)); exact Kd.R_mono HO247.out (fun _ hk => ⟨⟨hk.1.1.1, ⟨hk.1.1.2, hk.2⟩⟩, hk.1.2⟩)) hg hat); have n3_ := Aside0.mk (Kd.R_after (ok := (fun k_ => some k_ ≠ (.slice Ao22 t239.length co22 : Value).ownBlock ∧ some k_ ≠ (.slice Ao26 t245.length co26 : Value).ownBlock ∧ some k_ ≠ (.slice Ao35 t258.length co35 : Value).ownBlock)) (by (with_reducible repeat (first | apply Kd.R_alloc | apply Kd.R_drewN | apply Kd.R_drew)); exact Kd.R_mono HO253.out (fun _ hk => ⟨⟨hk.1.1.1, ⟨hk.1.1.2, hk.2⟩⟩, hk.1.2⟩)) hg hat); have n4_ := Aside0.mk (Kd.R_after (ok := (fun k_ => some k_ ≠ (.slice Ao22 t239.length co22 : Value).ownBlock ∧ some k_ ≠ (.slice Ao26 t245.length co26 : Value).ownBlock ∧ some k_ ≠ (.slice Ao30 t251.length co30 : Value).ownBlock)) (by (with_reducible repeat (first | apply Kd.R_alloc | apply Kd.R_drewN | apply Kd.R_drew)); exact Kd.R_mono HO260.out (fun _ hk => ⟨⟨hk.1.1.1.2, ⟨hk.1.1.2, hk.1.2⟩⟩, hk.2⟩)) hg hat); have n5_ := Aside0.mk (hb); have n6_ := Aside0.mk (ho); clear BK234; clear HO241; clear HO247; clear HO253; clear HO260; clear HB; clear HO256; have BK234 := n0_; have HO241 := n1_; have HO247 := n2_; have HO253 := n3_; have HO260 := n4_; have HB := n5_; have HO263 := n6_; clear n0_ n1_ n2_ n3_ n4_ n5_ n6_; clear ho hb hg hat))
           go_ret2
           exact ⟨_, by first | rfl | (simp [errW_none, errW_some] <;> rfl) | (simp [*, errW_none, errW_some] <;> rfl), by (with_reducible repeat (first | apply Kd.R_alloc | apply Kd.R_drewN | apply Kd.R_drew)); exact Kd.R_mono HO263.out (fun _ hk => trivial), by repeat (first | (with_reducible first | exact HB.out | apply below_alloc | apply pw_below_drewN | apply below_drew1 | refine below_set ?_ GE234.out) | exact HB.out)⟩
         · rw [if_neg c12] at H
           exact absurd H (by simp)
       · rw [if_neg c9] at H
         exact absurd H (by simp)
     · rw [if_neg c7] at H
       exact absurd H (by simp)
   · rw [if_neg c5] at H
     exact absurd H (by simp)
 · replace c3 := Bool.eq_false_iff.mpr c3
   subst c3
   have H1 : (some (([] : List Int), 9)) = some (r1, r2) := by rw [if_neg (show ¬ (false = true) by decide)] at H; exact H
   clear H
   have H := H1
   clear H1
   simp only [Option.some.injEq, Prod.mk.injEq] at H
   obtain ⟨rfl, rfl⟩ := H
   go_enter Tryd.func11, Tryd.ntmps11
   go_wp2_with (first | ((with_reducible refine gate_dst (N := 1) rfl ?_); refine box_event ?hg (N := 1) ?hd (cs := #[.int .i64 a0_0, .int .i64 a0_1, .int .i64 a0_2, .int .i64 a0_3, .int .u64 a0_4, .int .u32 a0_5]) (t := 27) ?hr ?_; (case hd => rfl); (case hg => rfl); (case hr => first | (go_simp; done) | (go_simp; rfl)); intro gb234 hg w36 hbox hb; have n0_ := Aside0.mk (below_step (by repeat (first | (with_reducible first | exact HB.out | apply below_alloc | apply pw_below_drewN | apply below_drew1) | exact HB.out)) hb); have n1_ := Aside0.mk (hbox); have n2_ := Aside0.mk ((by rw [hg]; exact (below_size (by repeat (first | (with_reducible first | exact HB.out | apply below_alloc | apply pw_below_drewN | apply below_drew1) | exact HB.out))) : w.heap.size ≤ gb234)); have n3_ := Aside0.mk ((by rw [hg]; exact (below_size (by repeat (first | (with_reducible first | exact HB.out | apply below_alloc | apply pw_below_drewN | apply below_drew1) | exact HB.out))) : w.heap.size ≤ gb234)); clear HB; have HB := n0_; have BK234 := n1_; have GW234 := n2_; have GE234 := n3_; clear n0_ n1_ n2_ n3_; clear hb hbox hg; have hcz37_0 : w36.cell? ⟨gb234, 0, none⟩ = some (.int .i64 a0_0) := (blk_cell BK234.out 0).trans rfl; have hcz37_1 : w36.cell? ⟨gb234, 1, none⟩ = some (.int .i64 a0_1) := (blk_cell BK234.out 1).trans rfl; have hcz37_2 : w36.cell? ⟨gb234, 2, none⟩ = some (.int .i64 a0_2) := (blk_cell BK234.out 2).trans rfl; have hcz37_3 : w36.cell? ⟨gb234, 3, none⟩ = some (.int .i64 a0_3) := (blk_cell BK234.out 3).trans rfl; have hcz37_4 : w36.cell? ⟨gb234, 4, none⟩ = some (.int .u64 a0_4) := (blk_cell BK234.out 4).trans rfl; have hcz37_5 : w36.cell? ⟨gb234, 5, none⟩ = some (.int .u32 a0_5) := (blk_cell BK234.out 5).trans rfl; have hfz37_0 := blk_frozen BK234.out 0; have hfz37_1 := blk_frozen BK234.out 1; have hfz37_2 := blk_frozen BK234.out 2; have hfz37_3 := blk_frozen BK234.out 3; have hfz37_4 := blk_frozen BK234.out 4; have hfz37_5 := blk_frozen BK234.out 5) | ((with_reducible refine gate_callee (f := 23) rfl ?_); refine goesL_ (some 7) rfl rfl Tryd.func23 (by kernel_rfl) rfl #[.agg #[.int .i64 a0_0, .int .i64 a0_1, .int .i64 a0_2, .int .i64 a0_3, .int .u64 a0_4, .int .u32 a0_5]] rfl (by (try simp only [List.map_toArray, List.map_cons, List.map_nil]); first | done | rfl | (simp only [List.length_drop, List.length_take]; rfl)) ?_; (with_reducible refine (keepsakeref04_can.calls a0_0 a0_1 a0_2 a0_3 a0_4 a0_5 false _ A2.out).mono ?_); rintro e w38 ⟨rfl, hb⟩; refine ⟨_, rfl, ?_⟩; have n0_ := Aside0.mk (blk_below (g := gb234) (o := .cells #[.int .i64 a0_0, .int .i64 a0_1, .int .i64 a0_2, .int .i64 a0_3, .int .u64 a0_4, .int .u32 a0_5] 27 (0, 0)) (by (with_reducible repeat (first | refine blk_drewN ?_ _ | refine blk_drew ?_ | refine blk_alloc ?_ _)); exact BK234.out) hb); have n1_ := Aside0.mk (below_step (by repeat (first | (with_reducible first | exact HB.out | apply below_alloc | apply pw_below_drewN | apply below_drew1 | refine below_set ?_ GE234.out) | exact HB.out)) hb); clear BK234; clear HB; have BK234 := n0_; have HB := n1_; clear n0_ n1_; (try clear hb); (try clear hb2); (try clear hk); (try clear hi)))
   go_ret2
   exact ⟨_, by first | rfl | (simp [errW_none, errW_some] <;> rfl) | (simp [*, errW_none, errW_some] <;> rfl), by first | exact Kd.R_nil _ _ _ _ _ | exact Kd.N_nil _ _ _ _ _ | exact Kd.V_nil _ _ _ _ _ | exact Kd.Q_nil _ _ _ _ _ | exact Kd.S_nil _ _ _ _ _, by repeat (first | (with_reducible first | exact HB.out | apply below_alloc | apply pw_below_drewN | apply below_drew1 | refine below_set ?_ GE234.out) | exact HB.out)⟩

/-! ### keepsakeref01_Same: function 12 -/
def keepsakeref01_Same.l0 : Nat → List Int → List Int → Int → Option (Bool)
 | 0, _, _, _ => none
 | k + 1, x0, x1, x5 => if x5 < (x0.length : Int) then (if 0 ≤ x5 then (if x5 < (x1.length : Int) then (if (rd x0 x5) = (rd x1 x5) then (keepsakeref01_Same.l0 k x0 x1 (wrap64 (x5 + 1))) else (some false)) else (none)) else (none)) else (some true)
def keepsakeref01_Same.f (k : Nat) (l0 : List Int) (l1 : List Int) : Option (Bool) := if (l0.length : Int) = (l1.length : Int) then (keepsakeref01_Same.l0 k l0 l1 0) else (some false)
theorem keepsakeref01_Same.mono_l : ∀ k, (∀ y0 y1 y2, LeO (keepsakeref01_Same.l0 k y0 y1 y2) (keepsakeref01_Same.l0 (k + 1) y0 y1 y2))
 | 0 => fun _ _ _ r h => by simp [keepsakeref01_Same.l0] at h
 | k + 1 => by
  have ih0 := keepsakeref01_Same.mono_l k
  · intro y0 y1 y2
    unfold keepsakeref01_Same.l0
    repeat' first
    | (with_reducible exact ih0 _ _ _)
    | (with_reducible exact LeO.refl _)
    | (with_reducible exact LeO.none _)
    | (with_reducible refine LeO.ite ?_ ?_)
    | (with_reducible refine LeO.bind ?_ (fun _ => ?_))
    | exact ih0 _ _ _
    | exact LeO.none _
    | refine LeO.ite ?_ ?_
    | refine LeO.bind ?_ (fun _ => ?_)
theorem keepsakeref01_Same.mono : ∀ a0 a1 k, LeO (keepsakeref01_Same.f k a0 a1) (keepsakeref01_Same.f (k + 1) a0 a1) := by
 intro a0 a1 k
 have ih0 := keepsakeref01_Same.mono_l k
 unfold keepsakeref01_Same.f
 repeat' first
  | (with_reducible exact ih0 _ _ _)
  | (with_reducible exact LeO.refl _)
  | (with_reducible exact LeO.none _)
  | (with_reducible refine LeO.ite ?_ ?_)
  | (with_reducible refine LeO.bind ?_ (fun _ => ?_))
  | exact ih0 _ _ _
  | exact LeO.none _
  | refine LeO.ite ?_ ?_
  | refine LeO.bind ?_ (fun _ => ?_)
set_option maxHeartbeats 8000000 in
set_option maxRecDepth 100000 in
theorem keepsakeref01_Same.calls (k : Nat) (A0 : Option Addr) (c0 : Nat) (l0 : List Int) (A1 : Option Addr) (c1 : Nat) (l1 : List Int) (r : Bool) (w : World) (hr0 : Kd.C (Kd.int .u8) w A0 l0.length l0) (hc0 : l0.length ≤ c0) (hr1 : Kd.C (Kd.int .u8) w A1 l1.length l1) (hc1 : l1.length ≤ c1) (h : keepsakeref01_Same.f k l0 l1 = some r) :
 Calls Tryd.prog 12 #[.slice A0 l0.length c0, .slice A1 l1.length c1] w fun e w' => e = .returned (.bool r) ∧ Drawn0 w w' := by
 have HR0 := Aside0.mk hr0
 have HC0 := Aside0.mk hc0
 clear hr0 hc0
 have HR1 := Aside0.mk hr1
 have HC1 := Aside0.mk hc1
 clear hr1 hc1
 have H : (if (l0.length : Int) = (l1.length : Int) then (keepsakeref01_Same.l0 k l0 l1 0) else (some false)) = some r := h
 clear h
 by_cases c3 : (l0.length : Int) = (l1.length : Int)
 · rw [if_pos c3] at H
   have c3b0 : ((l0.length : Int) == (l1.length : Int)) = true := beq_iff_eq.mpr c3
   have c3b1 : ((l0.length : Int) != (l1.length : Int)) = false := bne_eq_false_iff_eq.mpr c3
   have c3b2 : (l0.length == l1.length) = true := by first | simpa using c3 | (simp at c3 ⊢; omega)
   clear c3
   have H' := Aside0.mk H
   clear H
   go_enter Tryd.func12, Tryd.ntmps12
   go_wp2
   repeat (go_quiet (fail); try go_wp2)
   go_loopg [5] k (fun kq v5 w' => ∃ (x5_1 : Int), v5 = .int .i64 x5_1 ∧ Aside0 (keepsakeref01_Same.l0 kq l0 l1 x5_1 = some r) ∧ Aside0 (kq ≤ k) ∧ Drawn0 w w')
   case atStart => exact ⟨(0), (by first | rfl | (simp; done) | (simp [*]; done) | (simp; omega)), H', ⟨Nat.le_refl _⟩, by repeat (first | exact Drawn0.refl _ | apply Drawn0.step)⟩
   case round =>
    clear H'
    try clear c1
    try clear p2
    try clear c3
    try clear c3b0
    try clear c3b1
    try clear c3b2
    obtain ⟨x5_1, rfl, HA, HK1, ⟨m1, rfl⟩⟩ := hrel
    cases gk with
    | zero => exact absurd HA.out (by simp [keepsakeref01_Same.l0])
    | succ k1 =>
     have H := HA.out
     clear HA
     simp only [keepsakeref01_Same.l0] at H
     by_cases c4 : x5_1 < (l0.length : Int)
     · rw [if_pos c4] at H
       have c4b0 : decide (x5_1 < (l0.length : Int)) = true := decide_eq_true c4
       clear c4
       by_cases c5 : 0 ≤ x5_1
       · rw [if_pos c5] at H
         have c5b0 : decide (0 ≤ x5_1) = true := decide_eq_true c5
         clear c5
         by_cases c6 : x5_1 < (l1.length : Int)
         · rw [if_pos c6] at H
           have c6b0 : decide (x5_1 < (l1.length : Int)) = true := decide_eq_true c6
           clear c6
           by_cases c7 : (rd l0 x5_1) = (rd l1 x5_1)
           · rw [if_pos c7] at H
             have c7b0 : ((rd l0 x5_1) == (rd l1 x5_1)) = true := beq_iff_eq.mpr c7
             have c7b1 : ((rd l0 x5_1) != (rd l1 x5_1)) = false := bne_eq_false_iff_eq.mpr c7
             clear c7
             have H' := Aside0.mk H
             clear H
             have p264 : 0 ≤ (x5_1 : Int) := of_decide_eq_true (by first | (with_reducible assumption) | assumption)
             have q264 : x5_1 < (l0.length : Int) := of_decide_eq_true (by first | (with_reducible assumption) | assumption)
             obtain ⟨ad264, e264, hx264_0⟩ := Kd.at_int HR0.out x5_1 p264 q264
             cases e264
             replace p264 := eq_true p264
             replace q264 := eq_true q264
             have p265 : 0 ≤ (x5_1 : Int) := of_decide_eq_true (by first | (with_reducible assumption) | assumption)
             have q265 : x5_1 < (l1.length : Int) := of_decide_eq_true (by first | (with_reducible assumption) | assumption)
             obtain ⟨ad265, e265, hx265_0⟩ := Kd.at_int HR1.out x5_1 p265 q265
             cases e265
             replace p265 := eq_true p265
             replace q265 := eq_true q265
             go_wp2
             repeat (go_quiet (fail); try go_wp2)
             go_roundg k1
             case measure => have := HK1.out; omega
             case rel => exact ⟨(wrap64 (x5_1 + 1)), (by first | rfl | (simp; done) | (simp [*]; done) | (simp; omega)), H', ⟨by have := HK1.out; omega⟩, by repeat (first | exact Drawn0.refl _ | apply Drawn0.step)⟩
           · rw [if_neg c7] at H
             have c7b0 : ((rd l0 x5_1) == (rd l1 x5_1)) = false := beq_eq_false_iff_ne.mpr c7
             have c7b1 : ((rd l0 x5_1) != (rd l1 x5_1)) = true := bne_iff_ne.mpr c7
             obtain rfl := Option.some.inj H
             have p264 : 0 ≤ (x5_1 : Int) := of_decide_eq_true (by first | (with_reducible assumption) | assumption)
             have q264 : x5_1 < (l0.length : Int) := of_decide_eq_true (by first | (with_reducible assumption) | assumption)
             obtain ⟨ad264, e264, hx264_0⟩ := Kd.at_int HR0.out x5_1 p264 q264
             cases e264
             replace p264 := eq_true p264
             replace q264 := eq_true q264
             have p265 : 0 ≤ (x5_1 : Int) := of_decide_eq_true (by first | (with_reducible assumption) | assumption)
             have q265 : x5_1 < (l1.length : Int) := of_decide_eq_true (by first | (with_reducible assumption) | assumption)
             obtain ⟨ad265, e265, hx265_0⟩ := Kd.at_int HR1.out x5_1 p265 q265
             cases e265
             replace p265 := eq_true p265
             replace q265 := eq_true q265
             go_wp2
             repeat (go_quiet (fail); try go_wp2)
             go_ret
             exact ⟨by first | rfl | (simp; done) | (simp [*]; done), by repeat (first | exact Drawn0.refl _ | apply Drawn0.step)⟩
         · rw [if_neg c6] at H
           exact absurd H (by simp)
       · rw [if_neg c5] at H
         exact absurd H (by simp)
     · rw [if_neg c4] at H
       have c4b0 : decide (x5_1 < (l0.length : Int)) = false := decide_eq_false c4
       clear c4
       obtain rfl := Option.some.inj H
       go_wp2
       repeat (go_quiet (fail); try go_wp2)
       go_ret
       exact ⟨by first | rfl | (simp; done) | (simp [*]; done), by repeat (first | exact Drawn0.refl _ | apply Drawn0.step)⟩
 · rw [if_neg c3] at H
   have c3b0 : ((l0.length : Int) == (l1.length : Int)) = false := beq_eq_false_iff_ne.mpr c3
   have c3b1 : ((l0.length : Int) != (l1.length : Int)) = true := bne_iff_ne.mpr c3
   have c3b2 : (l0.length == l1.length) = false := by first | simpa using c3 | (simp at c3 ⊢; omega)
   obtain rfl := Option.some.inj H
   go_enter Tryd.func12, Tryd.ntmps12
   go_wp2
   repeat (go_quiet (fail); try go_wp2)
   go_ret
   exact ⟨by first | rfl | (simp; done) | (simp [*]; done), by repeat (first | exact Drawn0.refl _ | apply Drawn0.step)⟩

end Go.Proofs.YtlinaijndlcfjaaDoor.All
-- slimmed
