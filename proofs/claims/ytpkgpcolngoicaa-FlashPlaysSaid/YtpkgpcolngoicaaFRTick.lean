/- The document's flash chip: a cycle. -/
import Derived.Test.YtpkgpcolngoicaaAx2
import Derived.Test.YtpkgpcolngoicaaFRef
import Derived.Test.YtpkgpcolngoicaaFRangeP
set_option linter.unusedVariables false
set_option linter.unusedSimpArgs false
namespace Go.Proofs.Ytpkgpcolngoicaa.Given
open Go.RowKit Go.Proofs.Ytpkgpcolngoicaa.All Go.Proofs.Ytpkgpcolngoicaa.Sep Go.Proofs.YtpkgpcolngoicaaW.PrintWords Go.Proofs.YtpkgpcolngoicaaW.PrintLast Go.Proofs.YtpkgpcolngoicaaW.PrintMore
attribute [local go_sem] max2_int min2_int max_two min_two

def lef0 (s : RS) : RS := { s with left := 0 }
def dat (s : RS) (ys : List Int) : RS := { s with data := ys }
def clr (s : RS) : RS := { s with wk := 0, wf := 0, wm := 0, wv := 0 }
def rdone (s : RS) (ys : List Int) : RS := { s with left := 0, data := ys, wk := 0, wf := 0, wm := 0, wv := 0 }
def rtickD (s : RS) : List Int := if s.wk = 1 then Cut.prog s.data s.wf s.wv else cells s.data (rowAt s.wf s.wm.toNat) (List.replicate s.wm.toNat 255)
def rtickS (s : RS) : RS := if s.left = 0 then s else if 1 < s.left then { s with left := s.left - 1 } else rdone s (rtickD s)
section
variable {w0 w : World} {ts : List Thing} {r : Nat} {s : RS}
theorem rtick_idle (h : RHeld w0 w r s ts) (hl : s.left = 0) : Calls Try.prog 31 #[ptr r] w fun e w' => e = .returned (.tuple #[]) ∧ RHeld w0 w' r s ts := by
  have HH := Aside0.mk h
  obtain ⟨dv, sv, h⟩ := h
  have c9 := rcell h 9 (.int .i64 s.left) rfl
  rw [hl] at c9
  clear h
  go_enter Try.func31, Try.ntmps31
  go_wp2
  exact bodyPost_ret (results_none rfl _ _ _) rfl ⟨rfl, HH.out⟩
theorem rtick_more (h : RHeld w0 w r s ts) (hl : 1 < s.left) (hl2 : s.left ≤ 200) : Calls Try.prog 31 #[ptr r] w fun e w' => e = .returned (.tuple #[]) ∧ RHeld w0 w' r { s with left := s.left - 1 } ts := by
  obtain ⟨dv, sv, h⟩ := h
  have c9 := rcell h 9 (.int .i64 s.left) rfl
  have f9 := rfrozen h 9
  have HH : Aside0 (RHeld w0 (w.setCell ⟨r, 9, none⟩ (.int .i64 (s.left - 1))) r { s with left := s.left - 1 } ts) := ⟨dv, sv, rstore h 9 (.int .i64 (s.left - 1)) { s with left := s.left - 1 } dv sv (by simp [rcells])⟩
  clear h
  obtain ⟨s', hs'⟩ : ∃ s' : RS, { s with left := s.left - 1 } = s' := ⟨_, rfl⟩
  rw [hs'] at HH ⊢
  clear hs'
  generalize s.left = m at *
  have hb : (m == 0) = false := beq_eq_false_iff_ne.2 (by omega)
  go_enter Try.func31, Try.ntmps31
  go_wp2
  exact bodyPost_ret (results_none rfl _ _ _) rfl ⟨rfl, HH.out⟩
theorem rclear_st {dv sv : Value} (h : Held w0 w (box r (rcells s dv sv) rT :: ts)) :
    Held w0 ((((w.setCell ⟨r, 5, none⟩ (.int .i64 0)).setCell ⟨r, 6, none⟩ (.int .i64 0)).setCell ⟨r, 7, none⟩ (.int .i64 0)).setCell ⟨r, 8, none⟩ (.int .u8 0)) (box r (rcells (clr s) dv sv) rT :: ts) := by
  have h1 := rstore h 5 (.int .i64 0) { s with wk := 0 } dv sv (by simp [rcells])
  have h2 := rstore h1 6 (.int .i64 0) { s with wk := 0, wf := 0 } dv sv (by simp [rcells])
  have h3 := rstore h2 7 (.int .i64 0) { s with wk := 0, wf := 0, wm := 0 } dv sv (by simp [rcells])
  exact rstore h3 8 (.int .u8 0) (clr s) dv sv (by simp [rcells, clr])
/-- New bytes are laid into the box. -/
theorem rdata_st {dv dv' sv : Value} {ys : List Int} (h : Held w0 w (dRow dv' ys :: box r (rcells s dv sv) rT :: dRow dv s.data :: qRow sv s.seq :: ts)) :
    Held w0 (w.setCell ⟨r, 1, none⟩ dv') (box r (rcells (dat s ys) dv' sv) rT :: dRow dv' ys :: qRow sv s.seq :: ts) :=
  (rstore h.swap 1 dv' (dat s ys) dv' sv (by simp [rcells, dat])).third.drop
theorem rprog_calls {A : Option Addr} {c : Nat} {sv : Value} {xs ys : List Int} {q : List S47} {f v : Int} (hF : keepsakeref08_Program.f 2000 xs f v = some ys) (h : Held w0 w (box r (rcells s (.slice A xs.length c) sv) rT :: dRow (.slice A xs.length c) xs :: qRow sv q :: ts)) :
    Calls Try.prog 43 #[.slice A xs.length c, .int .i64 f, .int .u8 v] w fun e w' => ∃ dv', e = .returned dv' ∧ Held w0 w' (dRow dv' ys :: box r (rcells s (.slice A xs.length c) sv) rT :: dRow (.slice A xs.length c) xs :: qRow sv q :: ts) := by
  obtain ⟨A', c', hv', hcc, hC'⟩ := h.swap.row_at
  injection hv' with hv1 hv2 hv3
  subst hv1 hv3
  refine (keepsakeref08_Program.calls _ _ _ xs _ _ _ _ hC' hcc hF).mono ?_
  rintro e w1 ⟨v1, rfl, hR, hbb⟩
  exact ⟨v1, rfl, h.row_new hR hbb⟩
set_option maxHeartbeats 3200000 in
theorem rtick_prog (h : RHeld w0 w r s ts) (hl : s.left = 1) (hk : s.wk = 1) (hd : s.data.length ≤ 1100) (hb : Bytes s.data) (hv : 0 ≤ s.wv ∧ s.wv ≤ 255) :
    Calls Try.prog 31 #[ptr r] w fun e w' => e = .returned (.tuple #[]) ∧ RHeld w0 w' r (rdone s (Cut.prog s.data s.wf s.wv)) ts := by
  obtain ⟨A, c, sv, h, hc, hC⟩ := rlen h
  have c5 := rcell h 5 (.int .i64 s.wk) rfl
  have c9 := rcell h 9 (.int .i64 s.left) rfl
  have f9 := rfrozen h 9
  rw [hl] at c9
  rw [hk] at c5
  have H1 := Aside0.mk (rstore h 9 (.int .i64 0) (lef0 s) (.slice A s.data.length c) sv (by simp [rcells, lef0]))
  have HF := Aside0.mk (Cut.rp_f s.data hb s.wf s.wv hv hd 2000 (Nat.le_refl _))
  have hD0 : rdone s (Cut.prog s.data s.wf s.wv) = clr (dat (lef0 s) (Cut.prog s.data s.wf s.wv)) := rfl
  rw [hD0]
  have HF0 : Aside0 ((rcells (lef0 s) (.slice A s.data.length c) sv)[6]? = some (.int .i64 s.wf)) := ⟨rfl⟩
  have HV0 : Aside0 ((rcells (lef0 s) (.slice A s.data.length c) sv)[8]? = some (.int .u8 s.wv)) := ⟨rfl⟩
  have HX1 : Aside0 ((lef0 s).data = s.data ∧ (lef0 s).seq = s.seq) := ⟨rfl, rfl⟩
  clear h hC hb hv hl hD0
  generalize lef0 s = s1 at *
  generalize Cut.prog s.data s.wf s.wv = ys at *
  generalize s.wf = f at *
  generalize s.wv = v at *
  generalize s.seq = q at *
  generalize s.data = xs at *
  obtain ⟨L, hL⟩ : ∃ L, xs.length = L := ⟨_, rfl⟩
  have HPg : Hid (∀ W, Held w0 W (box r (rcells s1 (.slice A L c) sv) rT :: dRow (.slice A L c) xs :: qRow sv q :: ts) → Calls Try.prog 43 #[.slice A L c, .int .i64 f, .int .u8 v] W fun e w' => ∃ dv', e = .returned dv' ∧ Held w0 w' (dRow dv' ys :: box r (rcells s1 (.slice A L c) sv) rT :: dRow (.slice A L c) xs :: qRow sv q :: ts)) :=
    Lib.hid (fun W hW => by rw [← hL] at hW ⊢; exact rprog_calls HF.out hW)
  rw [hL] at H1 HF0 HV0
  clear HF hd hL hc
  go_enter Try.func31, Try.ntmps31
  go_wp2
  generalize w.setCell ⟨r, 9, none⟩ (.int .i64 0) = W at *
  have c1 := rcell H1.out 1 (.slice A L c) rfl
  have c6 := rcell H1.out 6 (.int .i64 f) HF0.out
  have c8 := rcell H1.out 8 (.int .u8 v) HV0.out
  clear c5 c9 f9
  refine start_ (n := 19) (S := (fun w' => w'.cell? ⟨r, 1, none⟩ = some (.slice A L c) ∧ w'.cell? ⟨r, 6, none⟩ = some (.int .i64 f) ∧ w'.cell? ⟨r, 8, none⟩ = some (.int .u8 v))) (ds := [18]) #[false, false, false, false, false, false, false, false, false, false, false, false, false, false, false, false, false, false, false] (by kernel_rfl) rfl rfl ⟨c1, c6, c8⟩ (fun hHeld => ?_)
  refine pure_ (i := 0) (N := some 28) (v := ?_) (a' := ?_) #[true, false, false, false, false, false, false, false, false, false, false, false, false, false, false, false, false, false, false] rfl rfl (any_of rfl (by kernel_rfl)) (fun _ _ _ h => h) (Or.inl ⟨by rfl, ?_⟩) ?_ ?_
  rotate_left
  · intro w'
    go_simp
    with_reducible rfl
  rotate_left
  · simp only [Act.put, List.setIfInBounds_toArray, List.set_cons_zero, List.set_cons_succ, i64_w, i32_w]
    rfl
  refine pure_ (i := 1) (N := some 29) (v := ?_) (a' := ?_) #[true, true, false, false, false, false, false, false, false, false, false, false, false, false, false, false, false, false, false] rfl rfl (any_of rfl (by kernel_rfl)) (fun _ _ _ h => h) (Or.inl ⟨by rfl, ?_⟩) ?_ ?_
  rotate_left
  · intro w'
    go_simp
    with_reducible rfl
  rotate_left
  · simp only [Act.put, List.setIfInBounds_toArray, List.set_cons_zero, List.set_cons_succ, i64_w, i32_w]
    rfl
  refine pure_ (i := 2) (N := some 30) (v := ?_) (a' := ?_) #[true, true, true, false, false, false, false, false, false, false, false, false, false, false, false, false, false, false, false] rfl rfl (any_of rfl (by kernel_rfl)) (fun _ _ _ h => h) (Or.inl ⟨by rfl, ?_⟩) ?_ ?_
  rotate_left
  · intro w'
    go_simp
    with_reducible rfl
  rotate_left
  · simp only [Act.put, List.setIfInBounds_toArray, List.set_cons_zero, List.set_cons_succ, i64_w, i32_w]
    rfl
  refine pure_ (i := 3) (N := some 31) (v := ?_) (a' := ?_) #[true, true, true, true, false, false, false, false, false, false, false, false, false, false, false, false, false, false, false] rfl rfl (any_of rfl (by kernel_rfl)) (fun _ _ _ h => h) (Or.inl ⟨by rfl, ?_⟩) ?_ ?_
  rotate_left
  · intro w'
    go_simp
    with_reducible rfl
  rotate_left
  · simp only [Act.put, List.setIfInBounds_toArray, List.set_cons_zero, List.set_cons_succ, i64_w, i32_w]
    rfl
  refine take_ (i := 4) (N := some 32) (v := ?_) (a' := ?_) #[true, true, true, true, true, false, false, false, false, false, false, false, false, false, false, false, false, false, false] rfl rfl (take_of rfl (by kernel_rfl)) (fun _ _ _ h => h) (Or.inl ⟨by rfl, ?_⟩) hHeld ?_ ?_
  rotate_left
  · rintro w' ⟨s0, s1, s2⟩
    go_simp
    with_reducible rfl
  rotate_left
  · simp only [Act.put, List.setIfInBounds_toArray, List.set_cons_zero, List.set_cons_succ, i64_w, i32_w]
    rfl
  refine pure_ (i := 5) (N := some 33) (v := ?_) (a' := ?_) #[true, true, true, true, true, true, false, false, false, false, false, false, false, false, false, false, false, false, false] rfl rfl (any_of rfl (by kernel_rfl)) (fun _ _ _ h => h) (Or.inl ⟨by rfl, ?_⟩) ?_ ?_
  rotate_left
  · intro w'
    go_simp
    with_reducible rfl
  rotate_left
  · simp only [Act.put, List.setIfInBounds_toArray, List.set_cons_zero, List.set_cons_succ, i64_w, i32_w]
    rfl
  refine pure_ (i := 6) (N := some 34) (v := ?_) (a' := ?_) #[true, true, true, true, true, true, true, false, false, false, false, false, false, false, false, false, false, false, false] rfl rfl (any_of rfl (by kernel_rfl)) (fun _ _ _ h => h) (Or.inl ⟨by rfl, ?_⟩) ?_ ?_
  rotate_left
  · intro w'
    go_simp
    with_reducible rfl
  rotate_left
  · simp only [Act.put, List.setIfInBounds_toArray, List.set_cons_zero, List.set_cons_succ, i64_w, i32_w]
    rfl
  refine pure_ (i := 7) (N := some 35) (v := ?_) (a' := ?_) #[true, true, true, true, true, true, true, true, false, false, false, false, false, false, false, false, false, false, false] rfl rfl (any_of rfl (by kernel_rfl)) (fun _ _ _ h => h) (Or.inl ⟨by rfl, ?_⟩) ?_ ?_
  rotate_left
  · intro w'
    go_simp
    with_reducible rfl
  rotate_left
  · simp only [Act.put, List.setIfInBounds_toArray, List.set_cons_zero, List.set_cons_succ, i64_w, i32_w]
    rfl
  refine pure_ (i := 8) (N := some 36) (v := ?_) (a' := ?_) #[true, true, true, true, true, true, true, true, true, false, false, false, false, false, false, false, false, false, false] rfl rfl (any_of rfl (by kernel_rfl)) (fun _ _ _ h => h) (Or.inl ⟨by rfl, ?_⟩) ?_ ?_
  rotate_left
  · intro w'
    go_simp
    with_reducible rfl
  rotate_left
  · simp only [Act.put, List.setIfInBounds_toArray, List.set_cons_zero, List.set_cons_succ, i64_w, i32_w]
    rfl
  refine take_ (i := 9) (N := some 37) (v := ?_) (a' := ?_) #[true, true, true, true, true, true, true, true, true, true, false, false, false, false, false, false, false, false, false] rfl rfl (take_of rfl (by kernel_rfl)) (fun _ _ _ h => h) (Or.inl ⟨by rfl, ?_⟩) hHeld ?_ ?_
  rotate_left
  · rintro w' ⟨s0, s1, s2⟩
    go_simp
    with_reducible rfl
  rotate_left
  · simp only [Act.put, List.setIfInBounds_toArray, List.set_cons_zero, List.set_cons_succ, i64_w, i32_w]
    rfl
  refine pure_ (i := 10) (N := some 38) (v := ?_) (a' := ?_) #[true, true, true, true, true, true, true, true, true, true, true, false, false, false, false, false, false, false, false] rfl rfl (any_of rfl (by kernel_rfl)) (fun _ _ _ h => h) (Or.inl ⟨by rfl, ?_⟩) ?_ ?_
  rotate_left
  · intro w'
    go_simp
    with_reducible rfl
  rotate_left
  · simp only [Act.put, List.setIfInBounds_toArray, List.set_cons_zero, List.set_cons_succ, i64_w, i32_w]
    rfl
  refine pure_ (i := 11) (N := some 39) (v := ?_) (a' := ?_) #[true, true, true, true, true, true, true, true, true, true, true, true, false, false, false, false, false, false, false] rfl rfl (any_of rfl (by kernel_rfl)) (fun _ _ _ h => h) (Or.inl ⟨by rfl, ?_⟩) ?_ ?_
  rotate_left
  · intro w'
    go_simp
    with_reducible rfl
  rotate_left
  · simp only [Act.put, List.setIfInBounds_toArray, List.set_cons_zero, List.set_cons_succ, i64_w, i32_w]
    rfl
  refine pure_ (i := 12) (N := some 40) (v := ?_) (a' := ?_) #[true, true, true, true, true, true, true, true, true, true, true, true, true, false, false, false, false, false, false] rfl rfl (any_of rfl (by kernel_rfl)) (fun _ _ _ h => h) (Or.inl ⟨by rfl, ?_⟩) ?_ ?_
  rotate_left
  · intro w'
    go_simp
    with_reducible rfl
  rotate_left
  · simp only [Act.put, List.setIfInBounds_toArray, List.set_cons_zero, List.set_cons_succ, i64_w, i32_w]
    rfl
  refine pure_ (i := 13) (N := some 41) (v := ?_) (a' := ?_) #[true, true, true, true, true, true, true, true, true, true, true, true, true, true, false, false, false, false, false] rfl rfl (any_of rfl (by kernel_rfl)) (fun _ _ _ h => h) (Or.inl ⟨by rfl, ?_⟩) ?_ ?_
  rotate_left
  · intro w'
    go_simp
    with_reducible rfl
  rotate_left
  · simp only [Act.put, List.setIfInBounds_toArray, List.set_cons_zero, List.set_cons_succ, i64_w, i32_w]
    rfl
  refine take_ (i := 14) (N := some 42) (v := ?_) (a' := ?_) #[true, true, true, true, true, true, true, true, true, true, true, true, true, true, true, false, false, false, false] rfl rfl (take_of rfl (by kernel_rfl)) (fun _ _ _ h => h) (Or.inl ⟨by rfl, ?_⟩) hHeld ?_ ?_
  rotate_left
  · rintro w' ⟨s0, s1, s2⟩
    go_simp
    with_reducible rfl
  rotate_left
  · simp only [Act.put, List.setIfInBounds_toArray, List.set_cons_zero, List.set_cons_succ, i64_w, i32_w]
    rfl
  refine one_ (i := 15) (N := some 43) #[true, true, true, true, true, true, true, true, true, true, true, true, true, true, true, true, false, false, false] rfl rfl (one_of rfl (by kernel_rfl)) (by decide) (fun K hK => ?_)
  refine goes_ Try.func43 (by kernel_rfl) rfl #[.slice A L c, .int .i64 f, .int .u8 v] (by rfl) rfl rfl (by (try simp only [List.map_toArray, List.map_cons, List.map_nil]); first | done | rfl) ?_
  with_reducible refine (HPg.out _ H1.out.drew).mono ?_
  rintro e w1 ⟨dv, rfl, hnew⟩
  refine ⟨_, rfl, ?_⟩
  obtain ⟨A9, n9, rfl, _, _⟩ := hnew.row_at
  have HN := Aside0.mk hnew
  have d1 := rcell hnew.swap 1 (.slice A L c) rfl
  have d6 := rcell hnew.swap 6 (.int .i64 f) HF0.out
  have d8 := rcell hnew.swap 8 (.int .u8 v) HV0.out
  have g1 := rfrozen hnew.swap 1
  clear hnew
  refine hK.out _ _ ⟨d1, d6, d8⟩ (fun hHeld => ?_)
  clear hK K
  refine norm_ (a' := ?_) ?_ ?_
  rotate_left
  · show Act.put _ (some 43) _ = _
    simp only [Act.put, List.setIfInBounds_toArray, List.set_cons_zero, List.set_cons_succ, i64_w, i32_w]
    rfl
  refine pure_ (i := 16) (N := some 44) (v := ?_) (a' := ?_) #[true, true, true, true, true, true, true, true, true, true, true, true, true, true, true, true, true, false, false] rfl rfl (any_of rfl (by kernel_rfl)) (fun _ _ _ h => h) (Or.inl ⟨by rfl, ?_⟩) ?_ ?_
  rotate_left
  · intro w'
    go_simp
    with_reducible rfl
  rotate_left
  · simp only [Act.put, List.setIfInBounds_toArray, List.set_cons_zero, List.set_cons_succ, i64_w, i32_w]
    rfl
  refine pure_ (i := 17) (N := some 45) (v := ?_) (a' := ?_) #[true, true, true, true, true, true, true, true, true, true, true, true, true, true, true, true, true, true, false] rfl rfl (any_of rfl (by kernel_rfl)) (fun _ _ _ h => h) (Or.inl ⟨by rfl, ?_⟩) ?_ ?_
  rotate_left
  · intro w'
    go_simp
    with_reducible rfl
  rotate_left
  · simp only [Act.put, List.setIfInBounds_toArray, List.set_cons_zero, List.set_cons_succ, i64_w, i32_w]
    rfl
  refine last_ (i := 18) (N := none) #[true, true, true, true, true, true, true, true, true, true, true, true, true, true, true, true, true, true, true] rfl rfl (one_of rfl (by kernel_rfl)) (by decide) (fun K hK => ?_)
  go_simp
  refine hK.out _ _ ?_
  clear hK K
  refine done_ (done_of rfl (by kernel_rfl)) ?_
  have H2 := Aside0.mk (rdata_st (s := s1) (by have h2 := HN.out; rw [← HX1.out.1, ← HX1.out.2] at h2; exact h2))
  clear d1 d6 d8 g1 hHeld HN c1 c6 c8 H1 HPg
  generalize w1.setCell ⟨r, 1, none⟩ (.slice A9 ys.length n9) = W2 at *
  have k5 := rcell H2.out 5 _ rfl
  have k6 := rcell H2.out 6 _ rfl
  have k7 := rcell H2.out 7 _ rfl
  have k8 := rcell H2.out 8 _ rfl
  have e5 := rfrozen H2.out 5
  have e6 := rfrozen H2.out 6
  have e7 := rfrozen H2.out 7
  have e8 := rfrozen H2.out 8
  simp only [rcells] at k5 k6 k7 k8
  have HE : Aside0 (RHeld w0 ((((W2.setCell ⟨r, 5, none⟩ (.int .i64 0)).setCell ⟨r, 6, none⟩ (.int .i64 0)).setCell ⟨r, 7, none⟩ (.int .i64 0)).setCell ⟨r, 8, none⟩ (.int .u8 0)) r (clr (dat s1 ys)) ts) := ⟨⟨_, _, rclear_st H2.out⟩⟩
  go_wp2
  go_end0
  exact ⟨rfl, HE.out⟩
theorem rrange_calls {A A2 : Option Addr} {c c2 : Nat} {sv : Value} {xs ys fs : List Int} {q : List S47} {f m : Int} (hF : keepsakeref08_Range.f 5000000 xs f m fs = some ys) (h : Held w0 w (box r (rcells s (.slice A xs.length c) sv) rT :: dRow (.slice A xs.length c) xs :: qRow sv q :: dRow (.slice A2 fs.length c2) fs :: ts)) :
    Calls Try.prog 44 #[.slice A xs.length c, .int .i64 f, .int .i64 m, .slice A2 fs.length c2] w fun e w' => ∃ dv', e = .returned dv' ∧ Held w0 w' (dRow dv' ys :: box r (rcells s (.slice A xs.length c) sv) rT :: dRow (.slice A xs.length c) xs :: qRow sv q :: ts) := by
  obtain ⟨A', c', hv', hcc, hC'⟩ := h.swap.row_at
  injection hv' with hv1 hv2 hv3
  subst hv1 hv3
  obtain ⟨A'', c'', hv', hcc2, hC2⟩ := h.fourth.row_at
  injection hv' with hv1 hv2 hv3
  subst hv1 hv3
  refine (keepsakeref08_Range.calls _ _ _ xs _ _ _ _ _ _ _ hC' hcc hC2 hcc2 hF).mono ?_
  rintro e w1 ⟨v1, rfl, hR, hbb⟩
  exact ⟨v1, rfl, h.fourth.drop.row_new hR hbb⟩
set_option maxHeartbeats 3200000 in
theorem rtick_range (h : RHeld w0 w r s ts) (hl : s.left = 1) (hk : s.wk ≠ 1) (hd : s.data.length ≤ 1100) (hm0 : 0 ≤ s.wm) (hm1 : s.wm ≤ 1100) :
    Calls Try.prog 31 #[ptr r] w fun e w' => e = .returned (.tuple #[]) ∧ RHeld w0 w' r (rdone s (cells s.data (rowAt s.wf s.wm.toNat) (List.replicate s.wm.toNat 255))) ts := by
  obtain ⟨A, c, sv, h, hc, hC⟩ := rlen h
  have c5 := rcell h 5 (.int .i64 s.wk) rfl
  have c9 := rcell h 9 (.int .i64 s.left) rfl
  have f9 := rfrozen h 9
  rw [hl] at c9
  have H1 := Aside0.mk (rstore h 9 (.int .i64 0) (lef0 s) (.slice A s.data.length c) sv (by simp [rcells, lef0]))
  have HF := Aside0.mk (Cut.rr_f s.data s.wf s.wm (List.replicate s.wm.toNat 255) hd (by simp; omega) 5000000 (Nat.le_refl _))
  have hD0 : rdone s (cells s.data (rowAt s.wf s.wm.toNat) (List.replicate s.wm.toNat 255)) = clr (dat (lef0 s) (cells s.data (rowAt s.wf s.wm.toNat) (List.replicate s.wm.toNat 255))) := rfl
  rw [hD0]
  have HF0 : Aside0 ((rcells (lef0 s) (.slice A s.data.length c) sv)[6]? = some (.int .i64 s.wf)) := ⟨rfl⟩
  have HM0 : Aside0 ((rcells (lef0 s) (.slice A s.data.length c) sv)[7]? = some (.int .i64 s.wm)) := ⟨rfl⟩
  have HX1 : Aside0 ((lef0 s).data = s.data ∧ (lef0 s).seq = s.seq) := ⟨rfl, rfl⟩
  clear h hC hl hD0
  generalize lef0 s = s1 at *
  generalize cells s.data (rowAt s.wf s.wm.toNat) (List.replicate s.wm.toNat 255) = ys at *
  generalize s.wf = f at *
  generalize s.wm = m at *
  generalize s.wk = kk at *
  generalize s.seq = q at *
  generalize s.data = xs at *
  have hkb : (kk == 1) = false := beq_eq_false_iff_ne.2 hk
  clear hk
  obtain ⟨L, hL⟩ : ∃ L, xs.length = L := ⟨_, rfl⟩
  have HRr : Hid (∀ W A2 c2, Held w0 W (box r (rcells s1 (.slice A L c) sv) rT :: dRow (.slice A L c) xs :: qRow sv q :: dRow (.slice A2 m.toNat c2) (List.replicate m.toNat 255) :: ts) → Calls Try.prog 44 #[.slice A L c, .int .i64 f, .int .i64 m, .slice A2 m.toNat c2] W fun e w' => ∃ dv', e = .returned dv' ∧ Held w0 w' (dRow dv' ys :: box r (rcells s1 (.slice A L c) sv) rT :: dRow (.slice A L c) xs :: qRow sv q :: ts)) :=
    Lib.hid (fun W A2 c2 hW => by
      have hlr : (List.replicate m.toNat (255 : Int)).length = m.toNat := List.length_replicate
      rw [← hL] at hW ⊢
      have := rrange_calls (fs := List.replicate m.toNat 255) (A2 := A2) (c2 := c2) (f := f) (m := m) HF.out (by rw [hlr]; exact hW)
      rwa [hlr] at this)
  rw [hL] at H1 HF0 HM0
  clear HF hd hL hc
  go_enter Try.func31, Try.ntmps31
  go_wp2
  generalize w.setCell ⟨r, 9, none⟩ (.int .i64 0) = W at *
  clear c5 c9 f9 hkb
  go_loopw [2, 3] (fun fv i wr => ∃ k : Nat, k ≤ m.toNat ∧ i = .int .i64 k ∧ Aside0 ((Kd.int .u8).R 5 wr W.heap.size (fun _ => True) fv (List.replicate k 255)) ∧ Aside0 (Below W.heap.size W wr)) (fun _ i _ => m.toNat - (intOf i).toNat)
  case atStart => exact ⟨0, Nat.zero_le _, rfl, ⟨Kd.R_nil _ _ _ _ _⟩, ⟨Below.refl _ _⟩⟩
  case round =>
    obtain ⟨k, hk, rfl, hO, hB⟩ := hrel
    obtain ⟨A2, c2, rfl⟩ := Kd.R_slice hO.out
    have HWr := Aside0.mk (H1.out.below hB.out)
    have k7 := rcell HWr.out 7 (.int .i64 m) HM0.out
    by_cases hlt : (k : Int) < m
    · have hsz := hB.out.size
      have hrep : List.replicate k (255 : Int) ++ [255] = List.replicate (k + 1) 255 := (List.replicate_succ' (n := k) (a := (255 : Int))).symm
      have HRep := Aside0.mk hrep
      have hlk : (List.replicate k (255 : Int)).length = k := List.length_replicate
      have HLK := Aside0.mk hlk
      clear hrep hlk
      generalize List.replicate k (255 : Int) = ks at *
      go_wp2_with (first | ((with_reducible refine gate_builtin (b := .append) rfl ?_); at_builtin; refine Kd.R_append (Kd.int .u8) (w0 := W) W.heap.size rfl (.tmp 55) (.tmp 56) 22 5 (.int .u8 0) 1 rfl Try.underlying22 infoB rfl (by decide) (by omega) (.slice A2 ks.length c2) ks 255 [.int .u8 255] (fun _ => True) (fun _ => False) rfl rfl ?aP (fun _ hk => hk.elim) ?aF ?aO ?aB ?aS ?aL ?_; (case aP => exact rfl); (case aB => first | exact hB.out | exact hB.out.alloc hsz _); (case aF => exact (fun _ _ => trivial)); (case aO => first | exact hO.out | exact Kd.R_alloc hO.out _); (case aS => first | exact hsz | (simp; omega)); (case aL => rw [HLK.out]; omega); intro v1 w1 ho hb hg hat; rw [HRep.out] at ho; have HO := Aside0.mk ho; have HB := Aside0.mk hb; clear ho hb hg hat))
      go_roundw
      case rel => exact ⟨k + 1, by omega, by go_num, HO, HB⟩
      case measure => simp [intOf]; omega
    · have hkm : k = m.toNat := by omega
      subst hkm
      have hlr : (List.replicate m.toNat (255 : Int)).length = m.toNat := List.length_replicate
      have hro := H1.out.row_new hO.out hB.out
      rw [hlr] at hro
      have HN1 := Aside0.mk (hro.fourth.third.fourth.swap)
      rw [hlr]
      have k1 := rcell HWr.out 1 (.slice A L c) rfl
      have k6 := rcell HWr.out 6 (.int .i64 f) HF0.out
      have hlt' : ¬ ((m.toNat : Nat) : Int) < m := by omega
      clear hro hO hB hlt hk H1
      go_wp2
      refine start_ (n := 20) (S := (fun w' => w'.cell? ⟨r, 1, none⟩ = some (.slice A L c) ∧ w'.cell? ⟨r, 6, none⟩ = some (.int .i64 f) ∧ w'.cell? ⟨r, 7, none⟩ = some (.int .i64 m))) (ds := [19]) #[false, false, false, false, false, false, false, false, false, false, false, false, false, false, false, false, false, false, false, false] (by kernel_rfl) rfl rfl ⟨k1, k6, k7⟩ (fun hHeld => ?_)
      refine pure_ (i := 0) (N := some 58) (v := ?_) (a' := ?_) #[true, false, false, false, false, false, false, false, false, false, false, false, false, false, false, false, false, false, false, false] rfl rfl (any_of rfl (by kernel_rfl)) (fun _ _ _ h => h) (Or.inl ⟨by rfl, ?_⟩) ?_ ?_
      rotate_left
      · intro w'
        go_simp
        with_reducible rfl
      rotate_left
      · simp only [Act.put, List.setIfInBounds_toArray, List.set_cons_zero, List.set_cons_succ, i64_w, i32_w]
        rfl
      refine pure_ (i := 1) (N := some 59) (v := ?_) (a' := ?_) #[true, true, false, false, false, false, false, false, false, false, false, false, false, false, false, false, false, false, false, false] rfl rfl (any_of rfl (by kernel_rfl)) (fun _ _ _ h => h) (Or.inl ⟨by rfl, ?_⟩) ?_ ?_
      rotate_left
      · intro w'
        go_simp
        with_reducible rfl
      rotate_left
      · simp only [Act.put, List.setIfInBounds_toArray, List.set_cons_zero, List.set_cons_succ, i64_w, i32_w]
        rfl
      refine pure_ (i := 2) (N := some 60) (v := ?_) (a' := ?_) #[true, true, true, false, false, false, false, false, false, false, false, false, false, false, false, false, false, false, false, false] rfl rfl (any_of rfl (by kernel_rfl)) (fun _ _ _ h => h) (Or.inl ⟨by rfl, ?_⟩) ?_ ?_
      rotate_left
      · intro w'
        go_simp
        with_reducible rfl
      rotate_left
      · simp only [Act.put, List.setIfInBounds_toArray, List.set_cons_zero, List.set_cons_succ, i64_w, i32_w]
        rfl
      refine pure_ (i := 3) (N := some 61) (v := ?_) (a' := ?_) #[true, true, true, true, false, false, false, false, false, false, false, false, false, false, false, false, false, false, false, false] rfl rfl (any_of rfl (by kernel_rfl)) (fun _ _ _ h => h) (Or.inl ⟨by rfl, ?_⟩) ?_ ?_
      rotate_left
      · intro w'
        go_simp
        with_reducible rfl
      rotate_left
      · simp only [Act.put, List.setIfInBounds_toArray, List.set_cons_zero, List.set_cons_succ, i64_w, i32_w]
        rfl
      refine take_ (i := 4) (N := some 62) (v := ?_) (a' := ?_) #[true, true, true, true, true, false, false, false, false, false, false, false, false, false, false, false, false, false, false, false] rfl rfl (take_of rfl (by kernel_rfl)) (fun _ _ _ h => h) (Or.inl ⟨by rfl, ?_⟩) hHeld ?_ ?_
      rotate_left
      · rintro w' ⟨s0, s1, s2⟩
        go_simp
        with_reducible rfl
      rotate_left
      · simp only [Act.put, List.setIfInBounds_toArray, List.set_cons_zero, List.set_cons_succ, i64_w, i32_w]
        rfl
      refine pure_ (i := 5) (N := some 63) (v := ?_) (a' := ?_) #[true, true, true, true, true, true, false, false, false, false, false, false, false, false, false, false, false, false, false, false] rfl rfl (any_of rfl (by kernel_rfl)) (fun _ _ _ h => h) (Or.inl ⟨by rfl, ?_⟩) ?_ ?_
      rotate_left
      · intro w'
        go_simp
        with_reducible rfl
      rotate_left
      · simp only [Act.put, List.setIfInBounds_toArray, List.set_cons_zero, List.set_cons_succ, i64_w, i32_w]
        rfl
      refine pure_ (i := 6) (N := some 64) (v := ?_) (a' := ?_) #[true, true, true, true, true, true, true, false, false, false, false, false, false, false, false, false, false, false, false, false] rfl rfl (any_of rfl (by kernel_rfl)) (fun _ _ _ h => h) (Or.inl ⟨by rfl, ?_⟩) ?_ ?_
      rotate_left
      · intro w'
        go_simp
        with_reducible rfl
      rotate_left
      · simp only [Act.put, List.setIfInBounds_toArray, List.set_cons_zero, List.set_cons_succ, i64_w, i32_w]
        rfl
      refine pure_ (i := 7) (N := some 65) (v := ?_) (a' := ?_) #[true, true, true, true, true, true, true, true, false, false, false, false, false, false, false, false, false, false, false, false] rfl rfl (any_of rfl (by kernel_rfl)) (fun _ _ _ h => h) (Or.inl ⟨by rfl, ?_⟩) ?_ ?_
      rotate_left
      · intro w'
        go_simp
        with_reducible rfl
      rotate_left
      · simp only [Act.put, List.setIfInBounds_toArray, List.set_cons_zero, List.set_cons_succ, i64_w, i32_w]
        rfl
      refine pure_ (i := 8) (N := some 66) (v := ?_) (a' := ?_) #[true, true, true, true, true, true, true, true, true, false, false, false, false, false, false, false, false, false, false, false] rfl rfl (any_of rfl (by kernel_rfl)) (fun _ _ _ h => h) (Or.inl ⟨by rfl, ?_⟩) ?_ ?_
      rotate_left
      · intro w'
        go_simp
        with_reducible rfl
      rotate_left
      · simp only [Act.put, List.setIfInBounds_toArray, List.set_cons_zero, List.set_cons_succ, i64_w, i32_w]
        rfl
      refine take_ (i := 9) (N := some 67) (v := ?_) (a' := ?_) #[true, true, true, true, true, true, true, true, true, true, false, false, false, false, false, false, false, false, false, false] rfl rfl (take_of rfl (by kernel_rfl)) (fun _ _ _ h => h) (Or.inl ⟨by rfl, ?_⟩) hHeld ?_ ?_
      rotate_left
      · rintro w' ⟨s0, s1, s2⟩
        go_simp
        with_reducible rfl
      rotate_left
      · simp only [Act.put, List.setIfInBounds_toArray, List.set_cons_zero, List.set_cons_succ, i64_w, i32_w]
        rfl
      refine pure_ (i := 10) (N := some 68) (v := ?_) (a' := ?_) #[true, true, true, true, true, true, true, true, true, true, true, false, false, false, false, false, false, false, false, false] rfl rfl (any_of rfl (by kernel_rfl)) (fun _ _ _ h => h) (Or.inl ⟨by rfl, ?_⟩) ?_ ?_
      rotate_left
      · intro w'
        go_simp
        with_reducible rfl
      rotate_left
      · simp only [Act.put, List.setIfInBounds_toArray, List.set_cons_zero, List.set_cons_succ, i64_w, i32_w]
        rfl
      refine pure_ (i := 11) (N := some 69) (v := ?_) (a' := ?_) #[true, true, true, true, true, true, true, true, true, true, true, true, false, false, false, false, false, false, false, false] rfl rfl (any_of rfl (by kernel_rfl)) (fun _ _ _ h => h) (Or.inl ⟨by rfl, ?_⟩) ?_ ?_
      rotate_left
      · intro w'
        go_simp
        with_reducible rfl
      rotate_left
      · simp only [Act.put, List.setIfInBounds_toArray, List.set_cons_zero, List.set_cons_succ, i64_w, i32_w]
        rfl
      refine pure_ (i := 12) (N := some 70) (v := ?_) (a' := ?_) #[true, true, true, true, true, true, true, true, true, true, true, true, true, false, false, false, false, false, false, false] rfl rfl (any_of rfl (by kernel_rfl)) (fun _ _ _ h => h) (Or.inl ⟨by rfl, ?_⟩) ?_ ?_
      rotate_left
      · intro w'
        go_simp
        with_reducible rfl
      rotate_left
      · simp only [Act.put, List.setIfInBounds_toArray, List.set_cons_zero, List.set_cons_succ, i64_w, i32_w]
        rfl
      refine pure_ (i := 13) (N := some 71) (v := ?_) (a' := ?_) #[true, true, true, true, true, true, true, true, true, true, true, true, true, true, false, false, false, false, false, false] rfl rfl (any_of rfl (by kernel_rfl)) (fun _ _ _ h => h) (Or.inl ⟨by rfl, ?_⟩) ?_ ?_
      rotate_left
      · intro w'
        go_simp
        with_reducible rfl
      rotate_left
      · simp only [Act.put, List.setIfInBounds_toArray, List.set_cons_zero, List.set_cons_succ, i64_w, i32_w]
        rfl
      refine take_ (i := 14) (N := some 72) (v := ?_) (a' := ?_) #[true, true, true, true, true, true, true, true, true, true, true, true, true, true, true, false, false, false, false, false] rfl rfl (take_of rfl (by kernel_rfl)) (fun _ _ _ h => h) (Or.inl ⟨by rfl, ?_⟩) hHeld ?_ ?_
      rotate_left
      · rintro w' ⟨s0, s1, s2⟩
        go_simp
        with_reducible rfl
      rotate_left
      · simp only [Act.put, List.setIfInBounds_toArray, List.set_cons_zero, List.set_cons_succ, i64_w, i32_w]
        rfl
      refine pure_ (i := 15) (N := some 73) (v := ?_) (a' := ?_) #[true, true, true, true, true, true, true, true, true, true, true, true, true, true, true, true, false, false, false, false] rfl rfl (any_of rfl (by kernel_rfl)) (fun _ _ _ h => h) (Or.inl ⟨by rfl, ?_⟩) ?_ ?_
      rotate_left
      · intro w'
        go_simp
        with_reducible rfl
      rotate_left
      · simp only [Act.put, List.setIfInBounds_toArray, List.set_cons_zero, List.set_cons_succ, i64_w, i32_w]
        rfl
      refine one_ (i := 16) (N := some 74) #[true, true, true, true, true, true, true, true, true, true, true, true, true, true, true, true, true, false, false, false] rfl rfl (one_of rfl (by kernel_rfl)) (by decide) (fun K hK => ?_)
      refine goes_ Try.func44 (by kernel_rfl) rfl #[.slice A L c, .int .i64 f, .int .i64 m, .slice A2 m.toNat c2] (by rfl) rfl rfl (by (try simp only [List.map_toArray, List.map_cons, List.map_nil]); first | done | rfl) ?_
      with_reducible refine (HRr.out _ _ _ HN1.out.drew).mono ?_
      rintro e w1 ⟨dv, rfl, hnew⟩
      refine ⟨_, rfl, ?_⟩
      obtain ⟨A9, n9, rfl, _, _⟩ := hnew.row_at
      have HN := Aside0.mk hnew
      have d1 := rcell hnew.swap 1 (.slice A L c) rfl
      have d6 := rcell hnew.swap 6 (.int .i64 f) HF0.out
      have d7 := rcell hnew.swap 7 (.int .i64 m) HM0.out
      have g1 := rfrozen hnew.swap 1
      clear hnew
      refine hK.out _ _ ⟨d1, d6, d7⟩ (fun hHeld => ?_)
      clear hK K
      refine norm_ (a' := ?_) ?_ ?_
      rotate_left
      · show Act.put _ (some 74) _ = _
        simp only [Act.put, List.setIfInBounds_toArray, List.set_cons_zero, List.set_cons_succ, i64_w, i32_w]
        rfl
      refine pure_ (i := 17) (N := some 75) (v := ?_) (a' := ?_) #[true, true, true, true, true, true, true, true, true, true, true, true, true, true, true, true, true, true, false, false] rfl rfl (any_of rfl (by kernel_rfl)) (fun _ _ _ h => h) (Or.inl ⟨by rfl, ?_⟩) ?_ ?_
      rotate_left
      · intro w'
        go_simp
        with_reducible rfl
      rotate_left
      · simp only [Act.put, List.setIfInBounds_toArray, List.set_cons_zero, List.set_cons_succ, i64_w, i32_w]
        rfl
      refine pure_ (i := 18) (N := some 76) (v := ?_) (a' := ?_) #[true, true, true, true, true, true, true, true, true, true, true, true, true, true, true, true, true, true, true, false] rfl rfl (any_of rfl (by kernel_rfl)) (fun _ _ _ h => h) (Or.inl ⟨by rfl, ?_⟩) ?_ ?_
      rotate_left
      · intro w'
        go_simp
        with_reducible rfl
      rotate_left
      · simp only [Act.put, List.setIfInBounds_toArray, List.set_cons_zero, List.set_cons_succ, i64_w, i32_w]
        rfl
      refine last_ (i := 19) (N := none) #[true, true, true, true, true, true, true, true, true, true, true, true, true, true, true, true, true, true, true, true] rfl rfl (one_of rfl (by kernel_rfl)) (by decide) (fun K hK => ?_)
      go_simp
      refine hK.out _ _ ?_
      clear hK K
      refine done_ (done_of rfl (by kernel_rfl)) ?_
      have H2 := Aside0.mk (rdata_st (s := s1) (by have h2 := HN.out; rw [← HX1.out.1, ← HX1.out.2] at h2; exact h2))
      clear d1 d6 d7 g1 hHeld HN k1 k6 k7 HN1 HRr
      generalize w1.setCell ⟨r, 1, none⟩ (.slice A9 ys.length n9) = W2 at *
      have k5 := rcell H2.out 5 _ rfl
      have k6 := rcell H2.out 6 _ rfl
      have k7 := rcell H2.out 7 _ rfl
      have k8 := rcell H2.out 8 _ rfl
      have e5 := rfrozen H2.out 5
      have e6 := rfrozen H2.out 6
      have e7 := rfrozen H2.out 7
      have e8 := rfrozen H2.out 8
      simp only [rcells] at k5 k6 k7 k8
      have HE : Aside0 (RHeld w0 ((((W2.setCell ⟨r, 5, none⟩ (.int .i64 0)).setCell ⟨r, 6, none⟩ (.int .i64 0)).setCell ⟨r, 7, none⟩ (.int .i64 0)).setCell ⟨r, 8, none⟩ (.int .u8 0)) r (clr (dat s1 ys)) ts) := ⟨⟨_, _, rclear_st H2.out⟩⟩
      go_wp2
      go_end0
      exact ⟨rfl, HE.out⟩
end
end Go.Proofs.Ytpkgpcolngoicaa.Given
