/- What places are left with: the walk of a loop over an iterator, and of the two iterators that are handed to it. -/
import Derived.Test.YtpkgpcolngoicaaClone
import Derived.RangeFuncBox
import Derived.RangeFuncLeaves
import Derived.RangeFuncNested
import Derived.RangeFuncFrom
import Derived.Shelf.Abstract
import Derived.Shelf.RegionOpen
import Derived.WalkKit
import Derived.OwnWalkIn
import Derived.TacticsInMore
import Derived.LoopNIn
import Derived.LoopIn
set_option linter.unusedVariables false
set_option linter.unusedSimpArgs false
namespace Go.Proofs.Ytpkgpcolngoicaa.Given
open Go.RowKit Go.Shelf Go.Proofs.YtpkgpcolngoicaaW.PrintWords Go.Proofs.YtpkgpcolngoicaaW.PrintLast Go.Proofs.YtpkgpcolngoicaaW.PrintMore
attribute [local go_sem] Oper.semAt_some

/-! ### plain: what is left -/
/-- One place has what was picked. -/
def put (o : List Int) (q : Int × Int) : List Int := if 0 ≤ q.1 ∧ q.1 < o.length then o.set q.1.toNat q.2 else o
def cells (o at_ pick : List Int) : List Int := (at_.zip pick).foldl put o
theorem put_len (o : List Int) (q : Int × Int) : (put o q).length = o.length := by unfold put; split <;> simp
theorem foldl_put_len (l : List (Int × Int)) : ∀ o : List Int, (l.foldl put o).length = o.length := by
  induction l with
  | nil => intro o; rfl
  | cons q l ih => intro o; rw [List.foldl_cons, ih, put_len]
theorem cells_len (o at_ pick : List Int) : (cells o at_ pick).length = o.length := foldl_put_len _ o
theorem cells_nil (o pick : List Int) : cells o [] pick = o := rfl
theorem zip_snoc (pre : List Int) : ∀ (pick : List Int) (x p : Int) (ps : List Int), pick.drop pre.length = p :: ps → (pre ++ [x]).zip pick = pre.zip pick ++ [(x, p)] := by
  induction pre with
  | nil => intro pick x p ps h; simp at h; subst h; simp
  | cons y pre ih =>
    intro pick x p ps h
    cases pick with
    | nil => simp at h
    | cons q pick => simp only [List.length_cons, List.drop_succ_cons] at h; simp [ih pick x p ps h]
theorem cells_snoc (o pre pick : List Int) (x p : Int) (ps : List Int) (h : pick.drop pre.length = p :: ps) : cells o (pre ++ [x]) pick = put (cells o pre pick) (x, p) := by
  unfold cells
  rw [zip_snoc pre pick x p ps h, List.foldl_append]
  rfl
theorem zip_over (pre : List Int) : ∀ (pick q : List Int), pick.length ≤ pre.length → (pre ++ q).zip pick = pre.zip pick := by
  induction pre with
  | nil => intro pick q h; have : pick = [] := List.length_eq_zero_iff.1 (by simpa using h); subst this; simp
  | cons y pre ih =>
    intro pick q h
    cases pick with
    | nil => simp
    | cons p pick => simp only [List.length_cons] at h; simp [ih pick q (by omega)]
theorem cells_over (o pre pick q : List Int) (h : pick.length ≤ pre.length) : cells o (pre ++ q) pick = cells o pre pick := by unfold cells; rw [zip_over pre pick q h]
theorem drop_next (pre pick : List Int) (x p : Int) (ps : List Int) (h : pick.drop pre.length = p :: ps) : pick.drop (pre ++ [x]).length = ps := by
  rw [List.length_append, List.length_singleton, ← List.drop_drop, h]; rfl

/-! ### the loop -/
theorem Kd.R_walk {α : Type} {d : Kd α} {e : Nat} {w w1 : World} {base : Nat} {ok : Nat → Prop} {v : Value} {xs : List α} (h : d.R e w base ok v xs) {row : Option Nat} (hg : w.grownBy w1 row)
    (hr : ∀ r, row = some r → ∃ o : Obj, w.heap[r]? = some o ∧ o.isCells = false) : d.R e w1 base ok v xs :=
  Kd.R_mono (Kd.R_move (Kd.R_bound h) (fun k hk => hg.block k hk.2.2.1 (fun he => by
    obtain ⟨o, ho, hc⟩ := hr k he.symm
    obtain ⟨_, _, _, q, _, cs, hk'⟩ := hk
    rw [hk'] at ho
    cases ho
    cases hc))) (fun _ hk => hk.1)
theorem grownBy_setCell_blk (W : World) (p : Addr) (u : Value) : W.grownBy (W.setCell p u) (some p.block) :=
  ⟨rfl, rfl, rfl, by simp [World.setCell], fun k _ hk => Below.heap_setCell W p u k (fun e => hk (by rw [e]))⟩
/-- What is still to be picked stands in a box. -/
def PickAt (w : World) (B : Nat) (pick : List Int) (W : World) : Prop := ∃ A c, Boxed W B 22 (.slice A pick.length c) ∧ pick.length ≤ c ∧ ReadsOf (Value.int .u8) 0 w A pick.length pick
def OutAt (base B : Nat) (out : List Int) (W : World) : Prop := ∃ A c, Boxed W B 22 (.slice A out.length c) ∧ (Kd.int .u8).R 5 W base (fun _ => True) (.slice A out.length c) out
theorem PickAt.own (w : World) (B : Nat) (f : List Int → List Int) : Own (fun s W => PickAt w B (f s) W) := by
  rintro s X Y row ⟨A, c, hv, r⟩ hg hrow
  refine ⟨A, c, hv.kept hg (fun e' => ?_), r⟩
  obtain ⟨o, ho, hc⟩ := hrow B e'.symm
  rw [show X.heap[B]? = _ from hv] at ho; cases ho; cases hc
theorem OutAt.own (base B : Nat) (f : List Int → List Int) : Own (fun s W => OutAt base B (f s) W) := by
  rintro s X Y row ⟨A, c, hv, r⟩ hg hrow
  refine ⟨A, c, hv.kept hg (fun e' => ?_), Kd.R_walk r hg hrow⟩
  obtain ⟨o, ho, hc⟩ := hrow B e'.symm
  rw [show X.heap[B]? = _ from hv] at ho; cases ho; cases hc
/-- What the body of a round leaves. -/
def Left (w W : World) (B BO : Nat) (ps out : List Int) (W' : World) : Prop := KeepsOthers W W' ∧ Below w.heap.size W W' ∧ PickAt w B ps W' ∧ OutAt w.heap.size BO out W' ∧ Below w.heap.size w W'
theorem Left.drew {w W : World} {B BO : Nat} {ps out : List Int} {W' : World} (h : Left w W B BO ps out W') : Left w W B BO ps out W'.drew := by
  obtain ⟨h1, h2, ⟨A, c, hp, hl, hr⟩, ⟨A', c', hv, hR⟩, h5⟩ := h
  exact ⟨h1.trans (KeepsOthers.drew _), h2.drew, ⟨A, c, hp, hl, hr⟩, ⟨A', c', hv, Kd.R_drew hR⟩, h5.drew⟩
theorem step_skip {w W : World} {B BO : Nat} {ps out : List Int} {A' A3 : Option Addr} {c' c3 : Nat} {pv : Value} (hP : Boxed W B 22 pv) (hV : Boxed W BO 22 (.slice A' out.length c')) (hR : (Kd.int .u8).R 5 W w.heap.size (fun _ => True) (.slice A' out.length c') out)
    (hne : BO ≠ B) (hB : w.heap.size ≤ B) (hb : Below w.heap.size w W) (h3 : ReadsOf (Value.int .u8) 0 w A3 ps.length ps) (hl : ps.length ≤ c3) :
    Left w W B BO ps out (W.setCell ⟨B, 0, none⟩ (.slice A3 ps.length c3)) :=
  ⟨KeepsOthers.setCell _ _ _, (Below.refl _ W).setCell (p := ⟨B, 0, none⟩) hB _, ⟨A3, c3, hP.set _, hl, h3⟩, ⟨A', c', hV.other hne _, Kd.R_set hR hP (by decide) 0 _⟩, hb.setCell (p := ⟨B, 0, none⟩) hB _⟩
theorem step_put {w W : World} {B BO g : Nat} {ps out : List Int} {A3 : Option Addr} {c' c3 : Nat} {pv : Value} {x p : Int} (hP : Boxed W B 22 pv) (hV : Boxed W BO 22 (.slice (some ⟨g, 0, none⟩) out.length c'))
    (hR : (Kd.int .u8).R 5 W w.heap.size (fun _ => True) (.slice (some ⟨g, 0, none⟩) out.length c') out)
    (hne : BO ≠ B) (hg1 : B ≠ g) (hg2 : BO ≠ g) (hg : w.heap.size ≤ g) (hB : w.heap.size ≤ B) (hb : Below w.heap.size w W) (h3 : ReadsOf (Value.int .u8) 0 w A3 ps.length ps) (hl : ps.length ≤ c3) (h0 : 0 ≤ x) (h1 : x < out.length) :
    Left w W B BO ps (put out (x, p)) ((W.setCell ⟨g, x.toNat, none⟩ (.int .u8 p)).setCell ⟨B, 0, none⟩ (.slice A3 ps.length c3)) := by
  have e : put out (x, p) = out.set x.toNat p := by unfold put; rw [if_pos ⟨h0, h1⟩]
  have hR1 := (Kd.R_put (h1 := fun _ => rfl) hR x p).1
  have el : out.length = (out.set x.toNat p).length := (List.length_set ..).symm
  rw [el] at hV hR1
  rw [e]
  have hP1 : Boxed (W.setCell ⟨g, x.toNat, none⟩ (.int .u8 p)) B 22 pv := hP.kept (grownBy_setCell_blk W ⟨g, x.toNat, none⟩ _) (by simpa using hg1)
  have hV1 : Boxed (W.setCell ⟨g, x.toNat, none⟩ (.int .u8 p)) BO 22 (.slice (some ⟨g, 0, none⟩) (out.set x.toNat p).length c') := hV.kept (grownBy_setCell_blk W ⟨g, x.toNat, none⟩ _) (by simpa using hg2)
  obtain ⟨k1, k2, k3, k4, k5⟩ := step_skip hP1 hV1 hR1 hne hB (hb.setCell (p := ⟨g, x.toNat, none⟩) hg _) h3 hl
  exact ⟨(KeepsOthers.setCell _ _ _).trans k1, ((Below.refl _ W).setCell (p := ⟨g, x.toNat, none⟩) hg _).trans k2, k3, k4, k5⟩
set_option maxRecDepth 100000 in
set_option maxHeartbeats 4000000 in
theorem picked_walk (A0 : Option Addr) (c0 : Nat) (l0 : List Int) (A2 : Option Addr) (c2 : Nat) (l2 : List Int) (gf : Nat) (lb : Array Value) (zs : List Int) (w : World)
    (hr0 : (Kd.int .u8).C w A0 l0.length l0) (hc0 : l0.length ≤ c0) (hr2 : (Kd.int .u8).C w A2 l2.length l2) (hc2 : l2.length ≤ c2) (hlen : l0.length ≤ 140737488351232)
    (eg : ∀ args w, (callFunc gf args).run Try.prog w = .ok (.enter gf args) w)
    (hseq : ∀ w1, Below w.heap.size w w1 → SeqStopsK Fence.wide 2 Try.prog gf lb (fun x : Int => #[Value.int .i64 x]) (Below w.heap.size) (fun ys => ys = zs) (fun pre => pre <+: zs) zs.length w1) :
    Calls Try.prog 53 #[.slice A0 l0.length c0, .func (.func gf) #[] lb, .slice A2 l2.length c2] w fun e w' => ∃ v, e = .returned v ∧ (Kd.int .u8).R 5 w' w.heap.size (fun _ => True) v (cells l0 zs l2) ∧ Below w.heap.size w w' := by
  have hclone : slices_Clone_byte_byte.f l0 = some l0 := by unfold slices_Clone_byte_byte.f; rw [if_pos hlen]
  have HC := Lib.hid hclone
  have HR0 := Aside0.mk hr0
  have HR2 := Aside0.mk hr2
  clear hclone hr0 hr2
  refine (callsIn_wide (n := 3)).1 ?_
  refine callsIn_of_wp_marks Try.func53 rfl trivial ?_ rfl
  simp only [Try.ntmps53, List.size_toArray, List.length_cons, List.length_nil, Nat.reduceAdd, Nat.reduceSub, Array.replicate_succ, Array.replicate_zero, List.push_toArray, List.append_toArray, List.nil_append, List.cons_append]
  gi_wp2_with (refine ⟨trivial, ?_⟩; gi_at_call 35; refine (callsIn_wide.2 (slices_Clone_byte_byte.calls A0 c0 l0 l0 _ (Kd.C_alloc HR0.out _) hc0 HC.out)).mono ?_; rintro e w1 ⟨v1, rfl, hR, hb⟩; obtain ⟨A1, c1, rfl⟩ := Kd.R_slice hR; have HR := Aside0.mk hR; have HB := Aside0.mk hb; clear hR hb)
  have bP := (Boxed.new w 22 (.slice A2 l2.length c2))
  have bP1 : Boxed w1 w.heap.size 22 (.slice A2 l2.length c2) := (HB.out.block _ bP.lt).trans bP
  have bO := Boxed.new w1 22 (.slice A1 l0.length c1)
  have hB1 : Below w.heap.size w w1 := ((Below.refl _ w).alloc (Nat.le_refl _) _).trans (HB.out.mono (by simp))
  have hlt1 : w.heap.size < w1.heap.size := bP1.lt
  have hB2 : Below w.heap.size w (w1.alloc (.cells #[.slice A1 l0.length c1] 22)) := hB1.alloc (Nat.le_of_lt hlt1) _
  refine wpIn_rangeFunc_ownF rfl (by omega) (gf := gf) (lb := lb) rfl trivial eg (hseq _ hB2) belowK_t (belowK_b (by simp; omega)) (Below.refl _ _) (fun _ => rfl)
    (fun pre W => PickAt w w.heap.size (l2.drop pre.length) W ∧ OutAt w.heap.size w1.heap.size (cells l0 pre l2) W ∧ Below w.heap.size w W)
    (fun c pre W => (c = .exit 0 ∧ l2.length < pre.length) ∧ OutAt w.heap.size w1.heap.size (cells l0 pre l2) W ∧ Below w.heap.size w W)
    (OwnFrom.and (Own.from (PickAt.own _ _ (fun pre => l2.drop pre.length)) _) (OwnFrom.and (Own.from (OutAt.own _ _ (fun pre => cells l0 pre l2)) _) (ownFrom_below (Nat.le_refl _) (by simp; omega))))
    (fun c => OwnFrom.and (ownFrom_pure _ _) (OwnFrom.and (Own.from (OutAt.own _ _ (fun pre => cells l0 pre l2)) _) (ownFrom_below (Nat.le_refl _) (by simp; omega))))
    ⟨⟨A2, c2, bP1.alloc _, hc2, Kd.reads_of_C (h1 := fun _ => rfl) HR2.out⟩, ⟨A1, c1, by rw [cells_nil]; exact bO, by rw [cells_nil]; exact Kd.R_lower (Kd.R_alloc HR.out _) (by simp)⟩, hB2⟩
    (fun x => { tmps := #[.slice A0 l0.length c0, .func (.func gf) #[] lb, .slice A2 l2.length c2, undef, undef, .pointer (some ⟨w.heap.size, 0, none⟩), .slice none 0 0, .pointer (some ⟨w1.heap.size, 0, none⟩), .int .i64 x, .slice A0 l0.length c0, .slice A1 l0.length c1, .func (.func gf) #[] lb, .int .i64 x, undef, undef, undef, undef, undef, undef, undef, undef, undef, undef, undef, undef, undef, undef, undef, undef, undef, undef, undef, undef], defers := [] }) ?assign ?body ?done ?stop
  case assign =>
    intro l x W K hK
    gi_wp2
    exact hK
  case body =>
    rintro l pre x W ⟨⟨A, c, hp, hpc, hpr⟩, ⟨A', c', hv, hR⟩, hB⟩ hlt
    have hcp := hp.cell
    have hcv := hv.cell
    have hfp := hp.frozen
    have hlen0 := cells_len l0 pre l2
    have HN := Lib.hid (drop_next pre l2 x)
    have HS := Lib.hid (cells_snoc l0 pre l2 x)
    have HR3 := Aside0.mk hR
    have HPR := Aside0.mk hpr
    have HP := Aside0.mk hp
    have HV := Aside0.mk hv
    have hB0 := Aside0.mk hB
    clear hR hpr hp hv hB hlt
    generalize hd : l2.drop pre.length = ps at *
    cases ps with
    | nil =>
      have hl : l2.length < (pre ++ [x]).length := by have := congrArg List.length hd; simp at this; simp; omega
      simp only [List.length_nil] at hcp
      have HL := Lib.hid hl
      have HD := Lib.hid hd
      clear hd hl
      gi_wp2
      refine ⟨KeepsOthers.refl _, ⟨rfl, HL.out⟩, ?_, hB0.out⟩
      rw [cells_over l0 pre l2 [x] (by have := congrArg List.length HD.out; simp at this; omega)]
      exact ⟨A', c', HV.out, HR3.out⟩
    | cons p ps =>
      obtain ⟨i0, hi, hz0, hz1, hz2⟩ := info_parts infoB
      obtain ⟨ad, rfl, hcell0⟩ := HPR.out.2.2 (by simp)
      have hc0 := pw_cell_below hB0.out (hcell0 0 (by simp))
      have ha0 : ad.add 0 = ad := by simp [Addr.add]
      rw [ha0] at hc0
      simp only [List.getD_cons_zero] at hc0
      clear ha0
      obtain ⟨A3, hcut, hA3, hC3⟩ := print_drop_of (P := Try.prog) (Value.int .u8) (0 : Int) 22 5 .i64 Try.underlying22 hi hz1 (some ad) c (p :: ps) 1 (by omega) (by simp only [List.length_cons]; omega) hpc
      have hE := HN.out p ps rfl
      have hE2 := HS.out p ps rfl
      have HC3 := Aside0.mk hC3
      have HA3 := Aside0.mk (hA3 w HPR.out)
      have HE := Lib.hid hE
      have HE2 := Lib.hid hE2
      have HD := Lib.hid hd
      have HI := Lib.hid hi
      clear hE hE2 hd hcell0 hA3 hC3 hpc HN HS hi
      simp only [List.length_cons, Int.toNat_one, List.drop_succ_cons, List.drop_zero] at hcp hcut
      have hlen1 : (0 : Int) < (ps.length : Int) + 1 := by omega
      by_cases hx : 0 ≤ x ∧ x < ((cells l0 pre l2).length : Int)
      · obtain ⟨hx0, hx1⟩ := hx
        obtain ⟨g, cap, hv, hg0, hg1, cs, hgc⟩ := Kd.R_form HR3.out (by omega)
        injection hv with hv1 hv2 hv3
        subst hv1 hv3
        have HGC := Aside0.mk hgc
        obtain ⟨hoc, hof⟩ := Kd.R_cell (0 : Int) HR3.out x hx0 hx1
        have hmx : Try.prog.follows .mixedOrders = true := by kernel_rfl
        have hne : w.heap.size ≠ g := fun e => by
          have h1 := HP.out
          rw [e] at h1
          have h2 : W.heap[g]? = some (.cells #[.slice (some ad) (p :: ps).length c] 22 (0, 0)) := h1
          rw [HGC.out] at h2
          injection h2 with h2
          injection h2 with _ h2
          cases h2
        have hne2 : w1.heap.size ≠ g := fun e => by
          have h1 := HV.out
          rw [e] at h1
          have h2 : W.heap[g]? = some (.cells #[.slice (some ⟨g, 0, none⟩) (cells l0 pre l2).length c'] 22 (0, 0)) := h1
          rw [HGC.out] at h2
          injection h2 with h2
          injection h2 with _ h2
          cases h2
        have hcq : (W.setCell ⟨g, x.toNat, none⟩ (.int .u8 p)).cell? ⟨w.heap.size, 0, none⟩ = some (.slice (some ad) (ps.length + 1) c) := (HP.out.kept (grownBy_setCell_blk W ⟨g, x.toNat, none⟩ _) (by simpa using hne)).cell
        have HNE := Lib.hid hne
        have HNE2 := Lib.hid hne2
        have HG0 := Lib.hid hg0
        have HX := Lib.hid (And.intro hx0 hx1)
        clear hv2 hgc hne hne2 hg0 hg1 hz0 hz1 hz2
        gi_wp2
        gi_region_with_o (fail)
        all_goals gi_wp2
        all_goals
          have hL := (step_put (p := p) HP.out HV.out HR3.out (Nat.ne_of_gt hlt1) HNE.out HNE2.out HG0.out (Nat.le_refl _) hB0.out HA3.out HC3.out HX.out.1 HX.out.2).drew
          simp only [List.length_cons, Int.toNat_one, List.drop_succ_cons, List.drop_zero] at hL
          show KeepsOthers W _ ∧ Below _ W _ ∧ PickAt w w.heap.size (l2.drop (pre ++ [x]).length) _ ∧ OutAt w.heap.size w1.heap.size (cells l0 (pre ++ [x]) l2) _ ∧ Below w.heap.size w _
          rw [HE.out, HE2.out]
          exact hL
      · have HX := Lib.hid hx
        have hp2 : put (cells l0 pre l2) (x, p) = cells l0 pre l2 := by unfold put; rw [if_neg hx]
        have HP2 := Lib.hid hp2
        clear hp2 hz0 hz1 hz2
        by_cases hx0 : 0 ≤ x
        · have hx1 : ¬ x < (l0.length : Int) := fun h => hx ⟨hx0, by rw [hlen0]; exact h⟩
          clear hx
          gi_wp2
          have hL := step_skip HP.out HV.out HR3.out (Nat.ne_of_gt hlt1) (Nat.le_refl _) hB0.out HA3.out HC3.out
          simp only [List.length_cons, Int.toNat_one, List.drop_succ_cons, List.drop_zero] at hL
          show KeepsOthers W _ ∧ Below _ W _ ∧ PickAt w w.heap.size (l2.drop (pre ++ [x]).length) _ ∧ OutAt w.heap.size w1.heap.size (cells l0 (pre ++ [x]) l2) _ ∧ Below w.heap.size w _
          rw [HE.out, HE2.out, HP2.out]
          exact hL
        · clear hx
          gi_wp2
          have hL := step_skip HP.out HV.out HR3.out (Nat.ne_of_gt hlt1) (Nat.le_refl _) hB0.out HA3.out HC3.out
          simp only [List.length_cons, Int.toNat_one, List.drop_succ_cons, List.drop_zero] at hL
          show KeepsOthers W _ ∧ Below _ W _ ∧ PickAt w w.heap.size (l2.drop (pre ++ [x]).length) _ ∧ OutAt w.heap.size w1.heap.size (cells l0 (pre ++ [x]) l2) _ ∧ Below w.heap.size w _
          rw [HE.out, HE2.out, HP2.out]
          exact hL
  case done =>
    rintro D ys W hD rfl ⟨_, ⟨A, c, hv, hR⟩, hB⟩ hK
    have hc := hv.cell
    have HR3 := Aside0.mk hR
    clear hR
    gi_wp2
    refine ⟨by simp, .inl ⟨_, _, rfl, run_takeDeferred hK, ?_⟩⟩
    exact ⟨_, results_tmp rfl _ _ _, _, rfl, Kd.R_walk HR3.out (grownBy_putObj' _ D (.deferred none)) (fun r e => by cases e; exact ⟨_, hK, rfl⟩), hB.trans (belowK_b (w := w) (Nat.le_refl _) W D _ _ (by simp at hD; omega) hK rfl rfl)⟩
  case stop =>
    rintro D c pre W hD ⟨q, rfl⟩ ⟨⟨rfl, hl⟩, ⟨A, c, hv, hR⟩, hB⟩ hK
    have hc := hv.cell
    have HO := Lib.hid (cells_over l0 pre l2 q (by omega))
    have HR3 := Aside0.mk hR
    clear hR hl
    gi_wp2
    refine ⟨by simp, .inl ⟨_, _, rfl, run_takeDeferred hK, ?_⟩⟩
    exact ⟨_, results_tmp rfl _ _ _, _, rfl, by rw [HO.out]; exact Kd.R_walk HR3.out (grownBy_putObj' _ D (.deferred none)) (fun r e => by cases e; exact ⟨_, hK, rfl⟩), hB.trans (belowK_b (w := w) (Nat.le_refl _) W D _ _ (by simp at hD; omega) hK rfl rfl)⟩

/-! ### the places of a list -/
def upto (f : Nat → Int) (k : Nat) : List Int := (List.range k).map f
theorem upto_succ (f : Nat → Int) (k : Nat) : upto f (k + 1) = upto f k ++ [f k] := by simp [upto, List.range_succ]
theorem upto_length (f : Nat → Int) (k : Nat) : (upto f k).length = k := by simp [upto]
theorem upto_all (zs : List Int) : upto (fun j => zs[j]?.getD 0) zs.length = zs := by
  apply List.ext_getElem
  · simp [upto]
  · intro i h1 h2
    simp [upto, h2]
theorem upto_prefix (f : Nat → Int) {k n : Nat} (h : k ≤ n) : upto f k <+: upto f n := by
  unfold upto
  refine (List.IsPrefix.map f ?_)
  refine ⟨(List.range (n - k)).map (k + ·), ?_⟩
  have := List.range_add (n := k) (m := n - k)
  rw [show k + (n - k) = n by omega] at this
  exact this.symm
set_option maxRecDepth 100000 in
set_option maxHeartbeats 2000000 in
theorem values1_in (F : Fence) (n : Nat) (h7 : F.fn 62) (hro : F.round = none) (hn : 1 ≤ n) (l Bs n₀ len cap : Nat) (ad : Addr) (zs : List Int) (hreach : len * 8 ≤ 140737488351232) (hb : ad.block < n₀) (J Jx : List Int → World → Prop)
    (hY : ∀ pre x W, J pre W → pre.length < len → YieldAt F (n - 1) Try.prog l #[.int .i64 x] W fun e W' =>
      (e = .returned (.bool true) ∧ J (pre ++ [x]) W' ∧ Below n₀ W W') ∨ (e = .returned (.bool false) ∧ Jx (pre ++ [x]) W'))
    (W : World) (hBs : W.cell? ⟨Bs, 0, none⟩ = some (.slice (some ad) len cap)) (hc : ∀ j, j < len → W.cell? (ad.add j) = some (.int .i64 (zs[j]?.getD 0))) (h0 : J [] W) :
    CallsIn F n Try.prog 62 #[.func (.yield l) #[] #[], .pointer (some ⟨Bs, 0, none⟩)] W fun e W' => (∃ v, e = .returned v) ∧
      ((∃ ys, ys = upto (fun j => zs[j]?.getD 0) len ∧ J ys W') ∨ (∃ pre, (∃ k, k ≤ len ∧ pre = upto (fun j => zs[j]?.getD 0) k) ∧ Jx pre W')) := by
  refine callsIn_of_wp Try.func62 rfl h7 ?_ hro
  simp only [Try.ntmps62, List.size_toArray, List.length_cons, List.length_nil, Nat.reduceAdd, Nat.reduceSub, Array.replicate_succ, Array.replicate_zero, List.push_toArray, List.append_toArray, List.nil_append, List.cons_append]
  gi_wp2
  gi_loopw [7] (fun i wr => ∃ k : Nat, k ≤ len ∧ i = .int .i64 k ∧ J (upto (fun j => zs[j]?.getD 0) k) wr ∧ Below n₀ W wr)
    (fun i _ => len - (intOf i).toNat)
  case atStart => exact ⟨0, Nat.zero_le _, rfl, h0, Below.refl _ _⟩
  case round =>
    obtain ⟨k, hk, rfl, hJs, hnx⟩ := hrel
    have hcx : k < len → wr.cell? (ad.add k) = some (.int .i64 (zs[k]?.getD 0)) := fun h => (hnx.cell (p := ad.add k) (by rw [add_block]; exact hb)).trans (hc k h)
    by_cases hlt : k < len
    · obtain ⟨fn, tmps, assign, body, hy, hR⟩ := hY _ (zs[k]?.getD 0) wr hJs (by rw [upto_length]; exact hlt)
      have hcx' := hcx hlt
      gi_wp2
      refine hR.mono ?_
      rintro e W3 (⟨rfl, hJ3, hk3⟩ | ⟨rfl, hJx3⟩)
      · gi_wp2
        go_roundw
        case rel => exact ⟨k + 1, by omega, by simp, by rw [upto_succ]; exact hJ3, hnx.trans hk3⟩
        case measure => simp [intOf]; omega
      · gi_wp2
        refine bodyPost_ret (results_none rfl _ _ _) rfl ?_
        exact ⟨⟨_, rfl⟩, .inr ⟨_, ⟨k + 1, by omega, (upto_succ _ _).symm⟩, hJx3⟩⟩
    · obtain rfl : k = len := by omega
      gi_wp2
      go_end0
      exact ⟨⟨_, rfl⟩, .inl ⟨_, rfl, hJs⟩⟩
set_option maxRecDepth 100000 in
set_option maxHeartbeats 1000000 in
theorem values1_nil_in (F : Fence) (n : Nat) (h7 : F.fn 62) (hro : F.round = none) (l Bs cap : Nat) (A : Option Addr) (J : List Int → World → Prop) (W : World) (hBs : W.cell? ⟨Bs, 0, none⟩ = some (.slice A 0 cap)) (h0 : J [] W) :
    CallsIn F n Try.prog 62 #[.func (.yield l) #[] #[], .pointer (some ⟨Bs, 0, none⟩)] W fun e W' => (∃ v, e = .returned v) ∧ J [] W' := by
  refine callsIn_of_wp Try.func62 rfl h7 ?_ hro
  simp only [Try.ntmps62, List.size_toArray, List.length_cons, List.length_nil, Nat.reduceAdd, Nat.reduceSub, Array.replicate_succ, Array.replicate_zero, List.push_toArray, List.append_toArray, List.nil_append, List.cons_append]
  gi_wp2
  gi_loopw [7] (fun i wr => i = .int .i64 0 ∧ J [] wr) (fun _ _ => 0)
  case atStart => exact ⟨rfl, h0⟩
  case round =>
    obtain ⟨rfl, hJs⟩ := hrel
    gi_wp2
    go_end0
    exact ⟨⟨_, rfl⟩, hJs⟩
theorem values_stops (Bs n₀ : Nat) (A : Option Addr) (cap : Nat) (zs : List Int) (hreach : zs.length * 8 ≤ 140737488351232) (w : World) (hBs : Bs < w.heap.size) (hn₀ : n₀ ≤ w.heap.size)
    (hc : w.cell? ⟨Bs, 0, none⟩ = some (.slice A zs.length cap)) (hI : ∀ ad, A = some ad → 0 < zs.length → ad.block < n₀) (hr : (Kd.int .i64).C w A zs.length zs) :
    SeqStopsK Fence.wide 2 Try.prog 62 #[.pointer (some ⟨Bs, 0, none⟩)] (fun x : Int => #[Value.int .i64 x]) (Below n₀) (fun ys => ys = zs) (fun pre => pre <+: zs) zs.length w := fun l J Jx W hW _ _ hY h0 => by
  have hc' := (hW.cell (p := ⟨Bs, 0, none⟩) hBs).trans hc
  by_cases hz : zs.length = 0
  · have hz' : zs = [] := List.length_eq_zero_iff.1 hz
    subst hz'
    exact (values1_nil_in Fence.wide 2 trivial rfl l Bs cap A J W hc' h0).mono fun e W' ⟨he, hj⟩ => ⟨he, .inl ⟨_, rfl, hj⟩⟩
  · obtain ⟨ad, rfl, hcs⟩ := (Kd.reads_of_C (enc := Value.int .i64) (d := (0 : Int)) (h1 := fun _ => rfl) hr).2.2 (by omega)
    have hb := hI ad rfl (by omega)
    refine (values1_in Fence.wide 2 trivial rfl (by omega) l Bs n₀ zs.length cap ad zs hreach hb J Jx hY W hc' (fun j hj => ?_) h0).mono ?_
    · have h := hcs j hj
      rw [List.getD_eq_getElem?_getD] at h
      exact (hW.cell (p := ad.add j) (by rw [add_block]; omega)).trans h
    · rintro e W' ⟨he, ⟨ys, rfl, hj⟩ | ⟨pre, ⟨k, hk, rfl⟩, hj⟩⟩
      · exact ⟨he, .inl ⟨_, upto_all zs, hj⟩⟩
      · refine ⟨he, .inr ⟨_, ?_, hj⟩⟩
        have := upto_prefix (fun j => zs[j]?.getD 0) hk
        rwa [upto_all] at this
/-! ### the places of a row -/
def rowAt (a : Int) (n : Nat) : List Int := upto (fun k => wrap64 (a + k)) n
set_option maxRecDepth 100000 in
set_option maxHeartbeats 2000000 in
theorem row1_in (F : Fence) (n : Nat) (h7 : F.fn 60) (hro : F.round = none) (hn : 1 ≤ n) (l Ba Bm n₀ : Nat) (a m : Int) (hm : m ≤ 9223372036854775807) (hBa0 : Ba < n₀) (J Jx : List Int → World → Prop)
    (hY : ∀ pre x W, J pre W → pre.length < m.toNat → YieldAt F (n - 1) Try.prog l #[.int .i64 x] W fun e W' =>
      (e = .returned (.bool true) ∧ J (pre ++ [x]) W' ∧ Below n₀ W W') ∨ (e = .returned (.bool false) ∧ Jx (pre ++ [x]) W'))
    (W : World) (hBm : W.cell? ⟨Bm, 0, none⟩ = some (.int .i64 m)) (hBa : W.cell? ⟨Ba, 0, none⟩ = some (.int .i64 a)) (h0 : J [] W) :
    CallsIn F n Try.prog 60 #[.func (.yield l) #[] #[], .pointer (some ⟨Bm, 0, none⟩), .pointer (some ⟨Ba, 0, none⟩)] W fun e W' => (∃ v, e = .returned v) ∧
      ((∃ ys, ys = rowAt a m.toNat ∧ J ys W') ∨ (∃ pre, (∃ k, k ≤ m.toNat ∧ pre = rowAt a k) ∧ Jx pre W')) := by
  have hr0 : rowAt a 0 = [] := rfl
  have hrs : ∀ k, rowAt a (k + 1) = rowAt a k ++ [wrap64 (a + (k : Int))] := fun k => upto_succ _ k
  have hrl : ∀ k, (rowAt a k).length = k := fun k => upto_length _ k
  by_cases h0m : 0 < m
  · obtain ⟨mn, rfl⟩ : ∃ mn : Nat, m = (mn : Int) := ⟨m.toNat, by omega⟩
    simp only [Int.toNat_natCast] at hY ⊢
    have HRS := Lib.hid hrs
    have HRL := Lib.hid hrl
    have HR0 := Lib.hid hr0
    clear hrs hrl hr0
    refine callsIn_of_wp Try.func60 rfl h7 ?_ hro
    simp only [Try.ntmps60, List.size_toArray, List.length_cons, List.length_nil, Nat.reduceAdd, Nat.reduceSub, Array.replicate_succ, Array.replicate_zero, List.push_toArray, List.append_toArray, List.nil_append, List.cons_append]
    gi_wp2
    gi_loopw [7] (fun i wr => ∃ k : Nat, k ≤ mn ∧ i = .int .i64 k ∧ J (rowAt a k) wr ∧ Below n₀ W wr)
      (fun i _ => mn - (intOf i).toNat)
    case atStart => exact ⟨0, Nat.zero_le _, rfl, h0, Below.refl _ _⟩
    case round =>
      obtain ⟨k, hk, rfl, hJs, hnx⟩ := hrel
      have hax : wr.cell? ⟨Ba, 0, none⟩ = some (.int .i64 a) := (hnx.cell (p := ⟨Ba, 0, none⟩) hBa0).trans hBa
      by_cases hlt : k < mn
      · obtain ⟨fn, tmps, assign, body, hy, hR⟩ := hY _ (wrap64 (a + (k : Int))) wr hJs (by rw [HRL.out]; exact hlt)
        gi_wp2
        refine hR.mono ?_
        rintro e W3 (⟨rfl, hJ3, hk3⟩ | ⟨rfl, hJx3⟩)
        · gi_wp2
          go_roundw
          case rel => exact ⟨k + 1, by omega, by simp, by rw [HRS.out]; exact hJ3, hnx.trans hk3⟩
          case measure => simp [intOf]; omega
        · gi_wp2
          refine bodyPost_ret (results_none rfl _ _ _) rfl ?_
          exact ⟨⟨_, rfl⟩, .inr ⟨_, ⟨k + 1, by omega, (HRS.out _).symm⟩, hJx3⟩⟩
      · obtain rfl : k = mn := by omega
        gi_wp2
        go_end0
        exact ⟨⟨_, rfl⟩, .inl ⟨_, rfl, hJs⟩⟩
  · have hm0 : m.toNat = 0 := by omega
    rw [hm0]
    clear hY hrs hrl hm0
    have hle : m ≤ 0 := by omega
    clear h0m
    refine callsIn_of_wp Try.func60 rfl h7 ?_ hro
    simp only [Try.ntmps60, List.size_toArray, List.length_cons, List.length_nil, Nat.reduceAdd, Nat.reduceSub, Array.replicate_succ, Array.replicate_zero, List.push_toArray, List.append_toArray, List.nil_append, List.cons_append]
    gi_wp2
    gi_loopw [7] (fun i wr => i = .int .i64 0 ∧ J [] wr) (fun _ _ => 0)
    case atStart => exact ⟨rfl, h0⟩
    case round =>
      obtain ⟨rfl, hJs⟩ := hrel
      gi_wp2
      go_end0
      exact ⟨⟨_, rfl⟩, .inl ⟨_, rfl, hJs⟩⟩
theorem row_stops (Ba Bm n₀ : Nat) (a m : Int) (hm : m ≤ 9223372036854775807) (hBa0 : Ba < n₀) (w : World) (hn₀ : n₀ ≤ w.heap.size) (hBm0 : Bm < w.heap.size)
    (hBm : w.cell? ⟨Bm, 0, none⟩ = some (.int .i64 m)) (hBa : w.cell? ⟨Ba, 0, none⟩ = some (.int .i64 a)) :
    SeqStopsK Fence.wide 2 Try.prog 60 #[.pointer (some ⟨Bm, 0, none⟩), .pointer (some ⟨Ba, 0, none⟩)] (fun x : Int => #[Value.int .i64 x]) (Below n₀) (fun ys => ys = rowAt a m.toNat) (fun pre => pre <+: rowAt a m.toNat) (rowAt a m.toNat).length w := fun l J Jx W hW _ _ hY h0 => by
  have hl : (rowAt a m.toNat).length = m.toNat := upto_length _ _
  rw [hl] at hY
  refine (row1_in Fence.wide 2 trivial rfl (by omega) l Ba Bm n₀ a m hm hBa0 J Jx hY W ((hW.cell (p := ⟨Bm, 0, none⟩) hBm0).trans hBm) ((hW.cell (p := ⟨Ba, 0, none⟩) (Nat.lt_of_lt_of_le hBa0 hn₀)).trans hBa) h0).mono ?_
  rintro e W' ⟨he, ⟨ys, rfl, hj⟩ | ⟨pre, ⟨k, hk, rfl⟩, hj⟩⟩
  · exact ⟨he, .inl ⟨_, rfl, hj⟩⟩
  · exact ⟨he, .inr ⟨_, upto_prefix _ hk, hj⟩⟩

/-! ### the two functions -/
theorem values_walk (A : Option Addr) (len cap : Nat) (w : World) : Calls Try.prog 59 #[.slice A len cap] w fun e w' => e = .returned (.func (.func 62) #[] #[.pointer (some ⟨w.heap.size, 0, none⟩)]) ∧ w' = w.alloc (.cells #[.slice A len cap] 62) := by
  go_enter Try.func59, Try.ntmps59
  go_wp2
  go_ret
  exact ⟨rfl, rfl⟩
theorem row_walk (a m : Int) (w : World) : Calls Try.prog 54 #[.int .i64 a, .int .i64 m] w fun e w' => e = .returned (.func (.func 60) #[] #[.pointer (some ⟨w.heap.size + 1, 0, none⟩), .pointer (some ⟨w.heap.size, 0, none⟩)]) ∧ w' = (w.alloc (.cells #[.int .i64 a] 3)).alloc (.cells #[.int .i64 m] 3) := by
  go_enter Try.func54, Try.ntmps54
  go_wp2
  go_ret
  exact ⟨rfl, rfl⟩
def cut_Cells.f (l0 l1 l2 : List Int) : Option (List Int) := if l0.length ≤ 140737488351232 ∧ l1.length * 8 ≤ 140737488351232 then some (cells l0 l1 l2) else none
set_option maxHeartbeats 1000000 in
theorem cut_Cells.calls (A0 : Option Addr) (c0 : Nat) (l0 : List Int) (A1 : Option Addr) (c1 : Nat) (l1 : List Int) (A2 : Option Addr) (c2 : Nat) (l2 : List Int) (r : List Int) (w : World)
    (hr0 : Kd.C (Kd.int .u8) w A0 l0.length l0) (hc0 : l0.length ≤ c0) (hr1 : Kd.C (Kd.int .i64) w A1 l1.length l1) (hc1 : l1.length ≤ c1) (hr2 : Kd.C (Kd.int .u8) w A2 l2.length l2) (hc2 : l2.length ≤ c2) (h : cut_Cells.f l0 l1 l2 = some r) :
    Calls Try.prog 52 #[.slice A0 l0.length c0, .slice A1 l1.length c1, .slice A2 l2.length c2] w fun e w' => ∃ v0_ : Value, e = .returned (v0_) ∧ Kd.R (Kd.int .u8) 5 w' w.heap.size (fun _ => True) v0_ r ∧ Below w.heap.size w w' := by
  unfold cut_Cells.f at h
  split at h
  · rename_i hb
    injection h with h
    subst h
    have hB1 : Below w.heap.size w (w.alloc (.cells #[.slice A1 l1.length c1] 62)) := (Below.refl _ _).alloc (Nat.le_refl _) _
    have hst : ∀ w1, Below (w.alloc (.cells #[.slice A1 l1.length c1] 62)).heap.size (w.alloc (.cells #[.slice A1 l1.length c1] 62)) w1 →
        SeqStopsK Fence.wide 2 Try.prog 62 #[.pointer (some ⟨w.heap.size, 0, none⟩)] (fun x : Int => #[Value.int .i64 x]) (Below (w.alloc (.cells #[.slice A1 l1.length c1] 62)).heap.size) (fun ys => ys = l1) (fun pre => pre <+: l1) l1.length w1 := fun w1 hw1 =>
      values_stops w.heap.size _ A1 c1 l1 hb.2 w1 (by have := hw1.size; simp at this; omega) hw1.size ((hw1.cell (p := ⟨w.heap.size, 0, none⟩) (by simp)).trans (Boxed.new w 62 _).cell)
        (fun ad e h0 => by
          subst e
          obtain ⟨ad', e', hcs⟩ := (Kd.reads_of_C (enc := Value.int .i64) (d := (0 : Int)) (h1 := fun _ => rfl) hr1).2.2 h0
          cases e'
          have := World.block_lt_of_cell? _ _ (hcs 0 h0)
          rw [add_block] at this
          simp; omega) (Kd.C_below (Kd.C_alloc hr1 _) hw1)
    have HP := Lib.hid (picked_walk A0 c0 l0 A2 c2 l2 62 #[.pointer (some ⟨w.heap.size, 0, none⟩)] l1 (w.alloc (.cells #[.slice A1 l1.length c1] 62)) (Kd.C_alloc hr0 _) hc0 (Kd.C_alloc hr2 _) hc2 hb.1 (enters_of Try.func62 (by kernel_rfl) rfl) hst)
    clear hst hr0 hr1 hr2
    have HB1 := Aside0.mk hB1
    clear hB1
    go_enter Try.func52, Try.ntmps52
    go_wp2_with (first | (go_at_call 59; refine (values_walk _ _ _ _).mono ?_; rintro e w' ⟨rfl, rfl⟩) | (go_at_call 53; refine HP.out.mono ?_; rintro e w' ⟨v, rfl, hR, hb'⟩; have HR := Aside0.mk hR; have HB := Aside0.mk hb'; clear hR hb'))
    go_ret
    exact ⟨v, rfl, Kd.R_lower HR.out (by simp), HB1.out.trans (HB.out.mono (by simp))⟩
  · cases h
def cut_Range.f (l0 : List Int) (a m : Int) (l3 : List Int) : Option (List Int) := if l0.length ≤ 140737488351232 ∧ m ≤ 9223372036854775807 then some (cells l0 (rowAt a m.toNat) l3) else none
set_option maxHeartbeats 1000000 in
theorem cut_Range.calls (A0 : Option Addr) (c0 : Nat) (l0 : List Int) (a m : Int) (A3 : Option Addr) (c3 : Nat) (l3 : List Int) (r : List Int) (w : World)
    (hr0 : Kd.C (Kd.int .u8) w A0 l0.length l0) (hc0 : l0.length ≤ c0) (hr3 : Kd.C (Kd.int .u8) w A3 l3.length l3) (hc3 : l3.length ≤ c3) (h : cut_Range.f l0 a m l3 = some r) :
    Calls Try.prog 46 #[.slice A0 l0.length c0, .int .i64 a, .int .i64 m, .slice A3 l3.length c3] w fun e w' => ∃ v0_ : Value, e = .returned (v0_) ∧ Kd.R (Kd.int .u8) 5 w' w.heap.size (fun _ => True) v0_ r ∧ Below w.heap.size w w' := by
  unfold cut_Range.f at h
  split at h
  · rename_i hb
    injection h with h
    subst h
    have hB1 : Below w.heap.size w ((w.alloc (.cells #[.int .i64 a] 3)).alloc (.cells #[.int .i64 m] 3)) := ((Below.refl _ _).alloc (Nat.le_refl _) _).alloc (by simp) _
    have c1 : ((w.alloc (.cells #[.int .i64 a] 3)).alloc (.cells #[.int .i64 m] 3)).cell? ⟨w.heap.size, 0, none⟩ = some (.int .i64 a) := ((Boxed.new w 3 (.int .i64 a)).alloc _).cell
    have c2 : ((w.alloc (.cells #[.int .i64 a] 3)).alloc (.cells #[.int .i64 m] 3)).cell? ⟨w.heap.size + 1, 0, none⟩ = some (.int .i64 m) := by
      have := (Boxed.new (w.alloc (.cells #[.int .i64 a] 3)) 3 (.int .i64 m)).cell
      rwa [World.size_alloc] at this
    have hst : ∀ w1, Below ((w.alloc (.cells #[.int .i64 a] 3)).alloc (.cells #[.int .i64 m] 3)).heap.size ((w.alloc (.cells #[.int .i64 a] 3)).alloc (.cells #[.int .i64 m] 3)) w1 →
        SeqStopsK Fence.wide 2 Try.prog 60 #[.pointer (some ⟨w.heap.size + 1, 0, none⟩), .pointer (some ⟨w.heap.size, 0, none⟩)] (fun x : Int => #[Value.int .i64 x]) (Below ((w.alloc (.cells #[.int .i64 a] 3)).alloc (.cells #[.int .i64 m] 3)).heap.size) (fun ys => ys = rowAt a m.toNat) (fun pre => pre <+: rowAt a m.toNat) (rowAt a m.toNat).length w1 := fun w1 hw1 =>
      row_stops w.heap.size (w.heap.size + 1) _ a m hb.2 (by simp; omega) w1 hw1.size (by have := hw1.size; simp at this; omega) ((hw1.cell (p := ⟨w.heap.size + 1, 0, none⟩) (by simp)).trans c2) ((hw1.cell (p := ⟨w.heap.size, 0, none⟩) (by simp; omega)).trans c1)
    have HP := Lib.hid (picked_walk A0 c0 l0 A3 c3 l3 60 #[.pointer (some ⟨w.heap.size + 1, 0, none⟩), .pointer (some ⟨w.heap.size, 0, none⟩)] (rowAt a m.toNat) ((w.alloc (.cells #[.int .i64 a] 3)).alloc (.cells #[.int .i64 m] 3)) (Kd.C_alloc (Kd.C_alloc hr0 _) _) hc0 (Kd.C_alloc (Kd.C_alloc hr3 _) _) hc3 hb.1 (enters_of Try.func60 (by kernel_rfl) rfl) hst)
    clear hst hr0 hr3 c1 c2
    have HB1 := Aside0.mk hB1
    clear hB1
    go_enter Try.func46, Try.ntmps46
    go_wp2_with (first | (go_at_call 54; refine (row_walk _ _ _).mono ?_; rintro e w' ⟨rfl, rfl⟩) | (go_at_call 53; refine HP.out.mono ?_; rintro e w' ⟨v, rfl, hR, hb'⟩; have HR := Aside0.mk hR; have HB := Aside0.mk hb'; clear hR hb'))
    go_ret
    exact ⟨v, rfl, Kd.R_lower HR.out (by simp; omega), HB1.out.trans (HB.out.mono (by simp; omega))⟩
  · cases h

end Go.Proofs.Ytpkgpcolngoicaa.Given
