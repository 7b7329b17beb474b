/- A flash chip's steps, each by its walk. -/
import Derived.Test.YtpkgpcolngoicaaFChip
set_option linter.unusedVariables false
set_option linter.unusedSimpArgs false
namespace Go.Proofs.Ytpkgpcolngoicaa.Given
open Go.RowKit Go.Proofs.Ytpkgpcolngoicaa.All Go.Proofs.Ytpkgpcolngoicaa.Sep Go.Proofs.YtpkgpcolngoicaaW.PrintWords Go.Proofs.YtpkgpcolngoicaaW.PrintLast Go.Proofs.YtpkgpcolngoicaaW.PrintMore
attribute [local go_sem] max2_int min2_int max_two min_two

theorem and255 (n : Int) (h0 : 0 ≤ n) (h1 : n < 4294967296) : Go.bits .and .i64 n 255 = n % 256 := by
  obtain ⟨m, rfl⟩ := Int.eq_ofNat_of_zero_le h0
  show IntKind.i64.wrap (((BitVec.ofInt 64 (m : Int) &&& BitVec.ofInt 64 255).toNat : Nat) : Int) = _
  rw [IntKind.wrap_i64, BitVec.toNat_and, BitVec.toNat_ofInt, BitVec.toNat_ofInt]
  have e1 : ((m : Int) % ((2 ^ 64 : Nat) : Int)).toNat = m := by omega
  have e2 : ((255 : Int) % ((2 ^ 64 : Nat) : Int)).toNat = 2 ^ 8 - 1 := by decide
  rw [e1, e2, Nat.and_two_pow_sub_one_eq_mod]
  omega
/-- What a key's first step is. -/
def Keyed (w : World) (g : Nat) (V : Value) (e : Ending) (w' : World) : Prop :=
  ∃ g1 g2 g3, e = .returned (firV g1 g3) ∧ w'.heap[g1]? = some (.cells #[ptr g] 25 (0, 0)) ∧ w'.heap[g2]? = some (.cells #[V] 43 (0, 0)) ∧ w'.heap[g3]? = some (.cells #[secV g1 g2] 43 (0, 0)) ∧
    w.heap.size ≤ g1 ∧ w.heap.size ≤ g2 ∧ w.heap.size ≤ g3 ∧ Below w.heap.size w w'
theorem alloc3 (w : World) (o1 o2 o3 : Obj) : (((w.alloc o1).alloc o2).alloc o3).heap[w.heap.size]? = some o1 ∧ (((w.alloc o1).alloc o2).alloc o3).heap[w.heap.size + 1]? = some o2 ∧ (((w.alloc o1).alloc o2).alloc o3).heap[w.heap.size + 2]? = some o3 ∧ (((w.alloc o1).alloc o2).alloc o3).heap.size = w.heap.size + 3 := by
  have e1 := heap_alloc_new w o1
  have e2 := heap_alloc_new (w.alloc o1) o2
  have e3 := heap_alloc_new ((w.alloc o1).alloc o2) o3
  simp only [World.size_alloc] at e2 e3
  refine ⟨?_, ?_, e3, by simp⟩
  · rw [Below.heap_alloc _ _ _ (by simp; omega), Below.heap_alloc _ _ _ (by simp)]; exact e1
  · rw [Below.heap_alloc _ _ _ (by simp)]; exact e2
theorem key_walk (g n : Nat) (w : World) : Calls Try.prog 48 #[ptr g, plainV n g] w (Keyed w g (plainV n g)) := by
  go_enter Try.func48, Try.ntmps48
  go_wp2
  go_ret
  obtain ⟨e1, e2, e3, e4⟩ := alloc3 w (.cells #[ptr g] 25) (.cells #[plainV n g] 43) (.cells #[secV w.heap.size (w.heap.size + 1)] 43)
  exact ⟨w.heap.size, w.heap.size + 1, w.heap.size + 2, rfl, e1, e2, e3, Nat.le_refl _, by omega, by omega, ((((Below.refl _ _).alloc (Nat.le_refl _) _).alloc (by simp) _).alloc (by simp; omega) _)⟩
/-- A step's value is stored: a step that leads to t by a key. -/
theorem keyed_step {w0 w w1 : World} {ts : List Thing} {g q cap : Nat} {s : FS} {sv : Value} {olds : List Old} {t : Tgt} {e : Ending} (h : Held w0 w (fchip g q cap s sv olds :: ts)) (hk : Keyed w g (plainV (fnOf t) g) e w1) :
    ∃ g1 g3 new, e = .returned (firV g1 g3) ∧ StepIs g (new ++ olds) (.first t) (firV g1 g3) ∧ Held w0 w1 (fchip g q cap s sv (new ++ olds) :: ts) := by
  obtain ⟨g1, g2, g3, rfl, h1, h2, h3, k1, k2, k3, hb⟩ := hk
  refine ⟨g1, g3, [⟨g1, ptr g, 25⟩, ⟨g2, plainV (fnOf t) g, 43⟩, ⟨g3, secV g1 g2, 43⟩], rfl, ⟨g1, g2, g3, rfl, by simp, by simp, by simp⟩, fchip_grow h hb _ (fun x hx => ?_)⟩
  simp only [List.mem_cons, List.not_mem_nil, or_false] at hx
  rcases hx with rfl | rfl | rfl
  · exact ⟨k1, h1, .inl rfl⟩
  · exact ⟨k2, h2, .inr rfl⟩
  · exact ⟨k3, h3, .inr rfl⟩
/-- The chip, its old blocks being some more. -/
def Grown1 (w0 w' : World) (g q cap : Nat) (s : FS) (olds : List Old) (ts : List Thing) : Prop := ∃ sv new, StepIs g (new ++ olds) s.step sv ∧ Held w0 w' (fchip g q cap s sv (new ++ olds) :: ts)
theorem rest_walk {w0 w : World} {ts : List Thing} {g q cap : Nat} {s : FS} {sv : Value} {olds : List Old} (h : Held w0 w (fchip g q cap s sv olds :: ts)) :
    Calls Try.prog 39 #[ptr g] w fun e w' => e = .returned (.tuple #[]) ∧ Grown1 w0 w' g q cap { s with step := .first .cmd } olds ts := by
  have HK := Lib.hid ((key_walk g (fnOf .cmd) w).mono fun e w1 hk => keyed_step (t := .cmd) h hk)
  clear h
  have HP : Aside0 (∀ W v new, StepIs g (new ++ olds) (.first .cmd) v → Held w0 W (fchip g q cap s sv (new ++ olds) :: ts) → Grown1 w0 (W.setCell ⟨g, 2, none⟩ v) g q cap { s with step := .first .cmd } olds ts) :=
    ⟨fun W v new h1 h2 => ⟨v, new, h1, fchip_store h2 2 v { s with step := .first .cmd } v (by simp [cellsOf]) rfl⟩⟩
  go_enter Try.func39, Try.ntmps39
  go_wp2_with (go_at_call 48; refine HK.out.mono ?_; rintro e w1 ⟨g1, g3, new, rfl, hs, hh⟩; have hc2 := fchip_cell hh 2 sv rfl; have hf2 := fchip_frozen hh 2; have HS := Aside0.mk hs; have HH := Aside0.mk hh; clear hs hh)
  go_end0
  exact ⟨rfl, HP.out _ _ _ HS.out HH.out⟩
/-- The second write of a key. -/
theorem second_walk {w0 w : World} {ts : List Thing} {g q cap : Nat} {s : FS} {sv : Value} {olds : List Old} (h : Held w0 w (fchip g q cap s sv olds :: ts)) (g1 g2 : Nat) (t : Tgt) (a v : Int) (ha : 0 ≤ a) (ha2 : a ≤ 1000000)
    (h1 : ⟨g1, ptr g, 25⟩ ∈ olds) (h2 : ⟨g2, plainV (fnOf t) g, 43⟩ ∈ olds) (hs : StepIs g olds s.step sv) :
    Calls Try.prog 55 #[.int .i64 a, .int .u8 v, ptr g2, ptr g1] w fun e w' => e = .returned (.tuple #[]) ∧ Chipped w0 w' g (if a % 256 = 170 ∧ v = 85 then { s with step := .on_ t } else s) ts := by
  have c1 := cell_of_block (fchip_old h _ h1) 0 (ptr g) rfl
  have c2 := cell_of_block (fchip_old h _ h2) 0 (plainV (fnOf t) g) rfl
  have c3 := fchip_cell h 2 sv rfl
  have f3 := fchip_frozen h 2
  have hand := and255 a ha (by omega)
  simp only at c1 c2
  have HP : Aside0 (Chipped w0 (w.setCell ⟨g, 2, none⟩ (plainV (fnOf t) g)) g { s with step := .on_ t } ts) :=
    ⟨⟨q, cap, plainV (fnOf t) g, olds, rfl, fchip_store h 2 _ { s with step := .on_ t } (plainV (fnOf t) g) (by simp [cellsOf]) rfl⟩⟩
  have HQ : Aside0 (Chipped w0 w g s ts) := ⟨⟨q, cap, sv, olds, hs, h⟩⟩
  clear h hs h1 h2
  by_cases e1 : a % 256 = 170
  · by_cases e2 : v = 85
    · rw [if_pos ⟨e1, e2⟩]
      subst e2
      go_enter Try.func55, Try.ntmps55
      go_wp2
      go_end0
      exact ⟨rfl, HP.out⟩
    · rw [if_neg (fun h => e2 h.2)]
      have d2 : (v == 85) = false := beq_eq_false_iff_ne.2 e2
      go_enter Try.func55, Try.ntmps55
      go_wp2
      go_end0
      exact ⟨rfl, HQ.out⟩
  · rw [if_neg (fun h => e1 h.1)]
    have d1 : (a % 256 == 170) = false := beq_eq_false_iff_ne.2 e1
    clear e1
    go_enter Try.func55, Try.ntmps55
    go_wp2
    go_end0
    exact ⟨rfl, HQ.out⟩
/-- The first write of a key. -/
theorem first_walk {w0 w : World} {ts : List Thing} {g q cap : Nat} {s : FS} {sv : Value} {olds : List Old} (h : Held w0 w (fchip g q cap s sv olds :: ts)) (g1 g2 g3 : Nat) (t : Tgt) (a v : Int) (ha : 0 ≤ a) (ha2 : a ≤ 1000000)
    (h1 : ⟨g1, ptr g, 25⟩ ∈ olds) (h2 : ⟨g2, plainV (fnOf t) g, 43⟩ ∈ olds) (h3 : ⟨g3, secV g1 g2, 43⟩ ∈ olds) (hs : StepIs g olds s.step sv) :
    Calls Try.prog 56 #[.int .i64 a, .int .u8 v, ptr g3, ptr g1] w fun e w' => e = .returned (.tuple #[]) ∧ Chipped w0 w' g (if a % 256 = 85 ∧ v = 170 then { s with step := .second t } else s) ts := by
  have c1 := cell_of_block (fchip_old h _ h1) 0 (ptr g) rfl
  have c2 := cell_of_block (fchip_old h _ h3) 0 (secV g1 g2) rfl
  have c3 := fchip_cell h 2 sv rfl
  have f3 := fchip_frozen h 2
  have hand := and255 a ha (by omega)
  simp only at c1 c2
  have HP : Aside0 (Chipped w0 (w.setCell ⟨g, 2, none⟩ (secV g1 g2)) g { s with step := .second t } ts) :=
    ⟨⟨q, cap, secV g1 g2, olds, ⟨g1, g2, rfl, h1, h2⟩, fchip_store h 2 _ { s with step := .second t } (secV g1 g2) (by simp [cellsOf]) rfl⟩⟩
  have HQ : Aside0 (Chipped w0 w g s ts) := ⟨⟨q, cap, sv, olds, hs, h⟩⟩
  clear h hs h1 h2 h3
  by_cases e1 : a % 256 = 85
  · by_cases e2 : v = 170
    · rw [if_pos ⟨e1, e2⟩]
      subst e2
      go_enter Try.func56, Try.ntmps56
      go_wp2
      go_end0
      exact ⟨rfl, HP.out⟩
    · rw [if_neg (fun h => e2 h.2)]
      have d2 : (v == 170) = false := beq_eq_false_iff_ne.2 e2
      go_enter Try.func56, Try.ntmps56
      go_wp2
      go_end0
      exact ⟨rfl, HQ.out⟩
  · rw [if_neg (fun h => e1 h.1)]
    have d1 : (a % 256 == 85) = false := beq_eq_false_iff_ne.2 e1
    clear e1
    go_enter Try.func56, Try.ntmps56
    go_wp2
    go_end0
    exact ⟨rfl, HQ.out⟩
def beginS (s : FS) (k f m v n : Int) : FS := { s with wk := k, wf := f, wm := m, wv := v, left := n, turn := 0, named := false }
theorem fchip_begin {w0 w : World} {ts : List Thing} {g q cap : Nat} {s : FS} {sv : Value} {olds : List Old} (h : Held w0 w (fchip g q cap s sv olds :: ts)) (k f m v n : Int) :
    Held w0 (((((((w.setCell ⟨g, 5, none⟩ (.int .i64 k)).setCell ⟨g, 6, none⟩ (.int .i64 f)).setCell ⟨g, 7, none⟩ (.int .i64 m)).setCell ⟨g, 8, none⟩ (.int .u8 v)).setCell ⟨g, 9, none⟩ (.int .i64 n)).setCell ⟨g, 4, none⟩ (.int .u8 0)).setCell ⟨g, 3, none⟩ (.bool false)) (fchip g q cap (beginS s k f m v n) sv olds :: ts) := by
  have h1 := fchip_store h 5 (.int .i64 k) { s with wk := k } sv (by simp [cellsOf]) rfl
  have h2 := fchip_store h1 6 (.int .i64 f) { s with wk := k, wf := f } sv (by simp [cellsOf]) rfl
  have h3 := fchip_store h2 7 (.int .i64 m) { s with wk := k, wf := f, wm := m } sv (by simp [cellsOf]) rfl
  have h4 := fchip_store h3 8 (.int .u8 v) { s with wk := k, wf := f, wm := m, wv := v } sv (by simp [cellsOf]) rfl
  have h5 := fchip_store h4 9 (.int .i64 n) { s with wk := k, wf := f, wm := m, wv := v, left := n } sv (by simp [cellsOf]) rfl
  have h6 := fchip_store h5 4 (.int .u8 0) { s with wk := k, wf := f, wm := m, wv := v, left := n, turn := 0 } sv (by simp [cellsOf]) rfl
  exact fchip_store h6 3 (.bool false) (beginS s k f m v n) sv (by simp [cellsOf, beginS]) rfl
set_option maxHeartbeats 800000 in
theorem begin_walk {w0 w : World} {ts : List Thing} {g q cap : Nat} {s : FS} {sv : Value} {olds : List Old} (h : Held w0 w (fchip g q cap s sv olds :: ts)) (hs : StepIs g olds s.step sv) (k f m v n : Int) :
    Calls Try.prog 61 #[ptr g, .agg #[.int .i64 k, .int .i64 f, .int .i64 m, .int .u8 v], .int .i64 n] w fun e w' => e = .returned (.tuple #[]) ∧ Chipped w0 w' g (beginS s k f m v n) ts := by
  have c3 := fchip_cell h 3 _ rfl
  have c4 := fchip_cell h 4 _ rfl
  have c5 := fchip_cell h 5 _ rfl
  have c6 := fchip_cell h 6 _ rfl
  have c7 := fchip_cell h 7 _ rfl
  have c8 := fchip_cell h 8 _ rfl
  have c9 := fchip_cell h 9 _ rfl
  have f3 := fchip_frozen h 3
  have f4 := fchip_frozen h 4
  have f5 := fchip_frozen h 5
  have f6 := fchip_frozen h 6
  have f7 := fchip_frozen h 7
  have f8 := fchip_frozen h 8
  have f9 := fchip_frozen h 9
  have hg : g < w.heap.size := World.block_lt_of_cell? w ⟨g, 3, none⟩ c3
  simp only [cellsOf] at c3 c4 c5 c6 c7 c8 c9
  have HP : Aside0 (Chipped w0 _ g (beginS s k f m v n) ts) := ⟨⟨q, cap, sv, olds, hs, (fchip_begin h k f m v n).alloc (.cells #[.int .i64 k, .int .i64 f, .int .i64 m, .int .u8 v] 53)⟩⟩
  clear h hs
  go_enter Try.func61, Try.ntmps61
  go_wp2
  go_end0
  exact ⟨rfl, HP.out⟩
theorem program_walk {w0 w : World} {ts : List Thing} {g q cap : Nat} {s : FS} {sv : Value} {olds : List Old} (h : Held w0 w (fchip g q cap s sv olds :: ts)) (hs : StepIs g olds s.step sv) (a v : Int) :
    Calls Try.prog 57 #[ptr g, .int .i64 a, .int .u8 v] w fun e w' => e = .returned (.tuple #[]) ∧ Chipped w0 w' g (beginS s 1 a 1 v 10) ts := by
  have HB := Lib.hid (begin_walk h hs 1 a 1 v 10)
  clear h hs
  go_enter Try.func57, Try.ntmps57
  go_wp2_with (go_at_call 61; (with_reducible refine HB.out.mono ?_); rintro e w1 ⟨rfl, h⟩; have HC := Aside0.mk h; clear h)
  go_end0
  exact ⟨rfl, HC.out⟩
def eraseS (s : FS) (a v : Int) : FS := if v = 48 then beginS s 2 (a / 256 * 256) 256 0 100 else if v = 16 ∧ a % 256 = 85 then beginS s 2 0 s.data.length 0 200 else s
theorem erase_walk {w0 w : World} {ts : List Thing} {g q cap : Nat} {s : FS} {sv : Value} {olds : List Old} (h : Held w0 w (fchip g q cap s sv olds :: ts)) (hs : StepIs g olds s.step sv) (a v : Int) (ha : 0 ≤ a) (ha2 : a ≤ 1000000) :
    Calls Try.prog 58 #[ptr g, .int .i64 a, .int .u8 v] w fun e w' => e = .returned (.tuple #[]) ∧ Chipped w0 w' g (eraseS s a v) ts := by
  have HB := Lib.hid (begin_walk h hs 2 (a / 256 * 256) 256 0 100)
  have HB2 := Lib.hid (begin_walk h hs 2 0 s.data.length 0 200)
  have HQ : Aside0 (Chipped w0 w g s ts) := ⟨⟨q, cap, sv, olds, hs, h⟩⟩
  have hand := and255 a ha (by omega)
  have c1 := fchip_cell h 1 (.slice (some ⟨q, 0, none⟩) s.data.length cap) rfl
  clear h hs
  unfold eraseS
  by_cases e1 : v = 48
  · rw [if_pos e1]
    subst e1
    clear hand
    go_enter Try.func58, Try.ntmps58
    go_wp2_with (go_at_call 61; (with_reducible refine HB.out.mono ?_); rintro e w1 ⟨rfl, h⟩; have HC := Aside0.mk h; clear h)
    go_end0
    exact ⟨rfl, HC.out⟩
  · rw [if_neg e1]
    have d1 : (v == 48) = false := beq_eq_false_iff_ne.2 e1
    clear e1
    by_cases e2 : v = 16
    · by_cases e3 : a % 256 = 85
      · rw [if_pos ⟨e2, e3⟩]
        subst e2
        go_enter Try.func58, Try.ntmps58
        go_wp2_with (go_at_call 61; (with_reducible refine HB2.out.mono ?_); rintro e w1 ⟨rfl, h⟩; have HC := Aside0.mk h; clear h)
        go_end0
        exact ⟨rfl, HC.out⟩
      · rw [if_neg (fun h => e3 h.2)]
        subst e2
        have d3 : (a % 256 == 85) = false := beq_eq_false_iff_ne.2 e3
        clear e3
        go_enter Try.func58, Try.ntmps58
        go_wp2
        go_end0
        exact ⟨rfl, HQ.out⟩
    · rw [if_neg (fun h => e2 h.1)]
      have d2 : (v == 16) = false := beq_eq_false_iff_ne.2 e2
      clear e2
      go_enter Try.func58, Try.ntmps58
      go_wp2
      go_end0
      exact ⟨rfl, HQ.out⟩
def cmdS (s : FS) (a v : Int) : FS := if a % 256 = 85 then if v = 160 then { s with step := .prog, raw := true } else if v = 128 then { s with step := .first .erase } else if v = 144 then { s with named := true } else s else s
set_option maxHeartbeats 800000 in
theorem command_walk {w0 w : World} {ts : List Thing} {g q cap : Nat} {s : FS} {sv : Value} {olds : List Old} (h : Held w0 w (fchip g q cap s sv olds :: ts)) (hs : StepIs g olds s.step sv) (a v : Int) (ha : 0 ≤ a) (ha2 : a ≤ 1000000) :
    Calls Try.prog 49 #[ptr g, .int .i64 a, .int .u8 v] w fun e w' => e = .returned (.tuple #[]) ∧ Chipped w0 w' g (cmdS s a v) ts := by
  have HQ : Aside0 (Chipped w0 w g s ts) := ⟨⟨q, cap, sv, olds, hs, h⟩⟩
  have hand := and255 a ha (by omega)
  have c2 := fchip_cell h 2 sv rfl
  have c3 := fchip_cell h 3 (.bool s.named) rfl
  have c7 := fchip_cell h 10 (.bool s.raw) rfl
  have f2 := fchip_frozen h 2
  have f3 := fchip_frozen h 3
  have f7 := fchip_frozen h 10
  have HK := Lib.hid ((key_walk g (fnOf .erase) w).mono fun e w1 hk => keyed_step (t := .erase) h hk)
  have HE : Aside0 (∀ W v new, StepIs g (new ++ olds) (.first .erase) v → Held w0 W (fchip g q cap s sv (new ++ olds) :: ts) → Chipped w0 (W.setCell ⟨g, 2, none⟩ v) g { s with step := .first .erase } ts) :=
    ⟨fun W v new h1 h2 => ⟨q, cap, v, _, h1, fchip_store h2 2 v { s with step := .first .erase } v (by simp [cellsOf]) rfl⟩⟩
  have HPr : Aside0 (Chipped w0 ((w.setCell ⟨g, 2, none⟩ (plainV 57 g)).setCell ⟨g, 10, none⟩ (.bool true)) g { s with step := .prog, raw := true } ts) :=
    ⟨⟨q, cap, _, olds, rfl, fchip_store (fchip_store h 2 (plainV 57 g) { s with step := .prog } (plainV 57 g) (by simp [cellsOf]) rfl) 10 (.bool true) { s with step := .prog, raw := true } _ (by simp [cellsOf]) rfl⟩⟩
  have HN : Aside0 (Chipped w0 (w.setCell ⟨g, 3, none⟩ (.bool true)) g { s with named := true } ts) :=
    ⟨⟨q, cap, sv, olds, hs, fchip_store h 3 (.bool true) { s with named := true } sv (by simp [cellsOf]) rfl⟩⟩
  clear h hs
  unfold cmdS
  by_cases e1 : a % 256 = 85
  · rw [if_pos e1]
    have d1 : (a % 256 != 85) = false := by rw [e1]; rfl
    by_cases e2 : v = 160
    · rw [if_pos e2]
      subst e2
      go_enter Try.func49, Try.ntmps49
      go_wp2
      go_end0
      exact ⟨rfl, HPr.out⟩
    · rw [if_neg e2]
      have d2 : (v == 160) = false := beq_eq_false_iff_ne.2 e2
      clear e2
      by_cases e3 : v = 128
      · rw [if_pos e3]
        subst e3
        go_enter Try.func49, Try.ntmps49
        go_wp2_with (go_at_call 48; refine HK.out.mono ?_; rintro e w1 ⟨g1, g3, new, rfl, hs, hh⟩; have hc2 := fchip_cell hh 2 sv rfl; have hf2 := fchip_frozen hh 2; have HS := Aside0.mk hs; have HH := Aside0.mk hh; clear hs hh)
        go_end0
        exact ⟨rfl, HE.out _ _ _ HS.out HH.out⟩
      · rw [if_neg e3]
        have d3 : (v == 128) = false := beq_eq_false_iff_ne.2 e3
        clear e3
        by_cases e4 : v = 144
        · rw [if_pos e4]
          subst e4
          go_enter Try.func49, Try.ntmps49
          go_wp2
          go_end0
          exact ⟨rfl, HN.out⟩
        · rw [if_neg e4]
          have d4 : (v == 144) = false := beq_eq_false_iff_ne.2 e4
          clear e4
          go_enter Try.func49, Try.ntmps49
          go_wp2
          go_end0
          exact ⟨rfl, HQ.out⟩
  · rw [if_neg e1]
    have d1 : (a % 256 != 85) = true := bne_iff_ne.2 e1
    clear e1
    go_enter Try.func49, Try.ntmps49
    go_wp2
    exact bodyPost_ret (results_none rfl _ _ _) rfl ⟨rfl, HQ.out⟩
end Go.Proofs.Ytpkgpcolngoicaa.Given
