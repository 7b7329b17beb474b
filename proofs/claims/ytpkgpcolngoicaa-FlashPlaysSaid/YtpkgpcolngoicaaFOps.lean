/- A flash chip: what a write does. -/
import Derived.Test.YtpkgpcolngoicaaFSteps
set_option linter.unusedVariables false
set_option linter.unusedSimpArgs false
namespace Go.Proofs.Ytpkgpcolngoicaa.Given
open Go.RowKit Go.Proofs.Ytpkgpcolngoicaa.All Go.Proofs.Ytpkgpcolngoicaa.Sep Go.Proofs.YtpkgpcolngoicaaW.PrintWords Go.Proofs.YtpkgpcolngoicaaW.PrintLast Go.Proofs.YtpkgpcolngoicaaW.PrintMore
attribute [local go_sem] max2_int min2_int max_two min_two

def runS (s : FS) (st : Stp) (a v : Int) : FS :=
  match st with
  | .first t => if a % 256 = 85 ∧ v = 170 then { s with step := .second t } else s
  | .second t => if a % 256 = 170 ∧ v = 85 then { s with step := .on_ t } else s
  | .on_ .cmd => cmdS s a v
  | .on_ .erase => eraseS s a v
  | .prog => beginS s 1 a 1 v 10
def restS (s : FS) : FS := { s with raw := false, step := .first .cmd }
def takeS (s : FS) (a v : Int) : FS := if v = 240 ∧ s.raw = false then { restS s with named := false } else runS (restS s) s.step a v
/-- The chip waits for a key, its step's value being a new one. -/
def Rested (w0 w : World) (g q cap : Nat) (s : FS) (olds : List Old) (ts : List Thing) : Prop := ∃ sv new, StepIs g (new ++ olds) (.first .cmd) sv ∧ Held w0 w (fchip g q cap (restS s) sv (new ++ olds) :: ts)
section
variable {w0 w : World} {ts : List Thing} {g q cap : Nat} {s : FS} {sv : Value} {olds : List Old}
theorem rested_of (h : Held w0 w (fchip g q cap s sv olds :: ts)) (n : Nat) :
    Calls Try.prog 39 #[ptr g] ((w.drewN n).setCell ⟨g, 10, none⟩ (.bool false)) fun e w' => e = .returned (.tuple #[]) ∧ Rested w0 w' g q cap s olds ts :=
  (rest_walk (fchip_store (h.below (pw_below_drewN (Below.refl _ _) n)) 10 (.bool false) { s with raw := false } sv (by simp [cellsOf]) rfl)).mono fun e w' h => h
set_option maxHeartbeats 800000 in
theorem taken_named (h : Held w0 w (fchip g q cap s sv olds :: ts)) (a : Int) (hr : s.raw = false) :
    Calls Try.prog 37 #[ptr g, .int .i64 a, .int .u8 240] w fun e w' => e = .returned (.tuple #[]) ∧ Chipped w0 w' g { restS s with named := false } ts := by
  have c2 := fchip_cell h 2 sv rfl
  have c10 := fchip_cell h 10 (.bool s.raw) rfl
  have f10 := fchip_frozen h 10
  have HR := Lib.hid (rested_of h)
  rw [hr] at c10
  clear h
  go_enter Try.func37, Try.ntmps37
  go_wp2
  go_quiet (fail)
  rename_i nq
  go_wp2_with (go_at_call 39; (with_reducible refine (HR.out _).mono ?_); rintro e w1 ⟨rfl, s1, new, h1, h2⟩; have d3 := fchip_cell h2 3 (.bool s.named) rfl; have e3 := fchip_frozen h2 3; have H1 := Aside0.mk h1; have H2 := Aside0.mk h2; clear h1 h2)
  exact bodyPost_ret (results_none rfl _ _ _) rfl ⟨rfl, q, cap, s1, _, H1.out, fchip_store H2.out 3 (.bool false) { restS s with named := false } s1 (by simp [cellsOf, restS]) rfl⟩
set_option maxHeartbeats 1600000 in
theorem taken_command (h : Held w0 w (fchip g q cap s (plainV 49 g) olds :: ts)) (a v : Int) (hv : ¬ (v = 240 ∧ s.raw = false)) (s' : FS)
    (hc : ∀ W, Rested w0 W g q cap s olds ts → Calls Try.prog 49 #[ptr g, .int .i64 a, .int .u8 v] W fun e w' => e = .returned (.tuple #[]) ∧ Chipped w0 w' g s' ts) :
    Calls Try.prog 37 #[ptr g, .int .i64 a, .int .u8 v] w fun e w' => e = .returned (.tuple #[]) ∧ Chipped w0 w' g s' ts := by
  have c2 := fchip_cell h 2 (plainV 49 g) rfl
  have c10 := fchip_cell h 10 (.bool s.raw) rfl
  have f10 := fchip_frozen h 10
  have HR := Lib.hid (rested_of h)
  have HC := Lib.hid hc
  by_cases e : v = 240
  · have hr : s.raw = true := by cases hr : s.raw with
      | true => rfl
      | false => exact absurd ⟨e, hr⟩ hv
    rw [hr] at c10
    clear h hc hv
    subst e
    go_enter Try.func37, Try.ntmps37
    go_wp2
    go_quiet (fail)
    rename_i nq
    go_wp2_with (first
      | (go_at_call 39; (with_reducible refine (HR.out _).mono ?_); rintro e w1 ⟨rfl, h1⟩; have H1 := Aside0.mk h1; clear h1)
      | (go_at_call 49; (with_reducible refine (HC.out _ H1.out).mono ?_); rintro e w2 ⟨rfl, h2⟩; have H2 := Aside0.mk h2; clear h2))
    go_end0
    exact ⟨rfl, H2.out⟩
  · have hb : (v == 240) = false := beq_eq_false_iff_ne.2 e
    generalize s.raw = raw at c10
    clear h hc hv e
    go_enter Try.func37, Try.ntmps37
    go_wp2
    go_quiet (fail)
    rename_i nq
    go_wp2_with (first
      | (go_at_call 39; (with_reducible refine (HR.out _).mono ?_); rintro e w1 ⟨rfl, h1⟩; have H1 := Aside0.mk h1; clear h1)
      | (go_at_call 49; (with_reducible refine (HC.out _ H1.out).mono ?_); rintro e w2 ⟨rfl, h2⟩; have H2 := Aside0.mk h2; clear h2))
    go_end0
    exact ⟨rfl, H2.out⟩
set_option maxHeartbeats 1600000 in
theorem taken_erase (h : Held w0 w (fchip g q cap s (plainV 58 g) olds :: ts)) (a v : Int) (hv : ¬ (v = 240 ∧ s.raw = false)) (s' : FS)
    (hc : ∀ W, Rested w0 W g q cap s olds ts → Calls Try.prog 58 #[ptr g, .int .i64 a, .int .u8 v] W fun e w' => e = .returned (.tuple #[]) ∧ Chipped w0 w' g s' ts) :
    Calls Try.prog 37 #[ptr g, .int .i64 a, .int .u8 v] w fun e w' => e = .returned (.tuple #[]) ∧ Chipped w0 w' g s' ts := by
  have c2 := fchip_cell h 2 (plainV 58 g) rfl
  have c10 := fchip_cell h 10 (.bool s.raw) rfl
  have f10 := fchip_frozen h 10
  have HR := Lib.hid (rested_of h)
  have HC := Lib.hid hc
  by_cases e : v = 240
  · have hr : s.raw = true := by cases hr : s.raw with
      | true => rfl
      | false => exact absurd ⟨e, hr⟩ hv
    rw [hr] at c10
    clear h hc hv
    subst e
    go_enter Try.func37, Try.ntmps37
    go_wp2
    go_quiet (fail)
    rename_i nq
    go_wp2_with (first
      | (go_at_call 39; (with_reducible refine (HR.out _).mono ?_); rintro e w1 ⟨rfl, h1⟩; have H1 := Aside0.mk h1; clear h1)
      | (go_at_call 58; (with_reducible refine (HC.out _ H1.out).mono ?_); rintro e w2 ⟨rfl, h2⟩; have H2 := Aside0.mk h2; clear h2))
    go_end0
    exact ⟨rfl, H2.out⟩
  · have hb : (v == 240) = false := beq_eq_false_iff_ne.2 e
    generalize s.raw = raw at c10
    clear h hc hv e
    go_enter Try.func37, Try.ntmps37
    go_wp2
    go_quiet (fail)
    rename_i nq
    go_wp2_with (first
      | (go_at_call 39; (with_reducible refine (HR.out _).mono ?_); rintro e w1 ⟨rfl, h1⟩; have H1 := Aside0.mk h1; clear h1)
      | (go_at_call 58; (with_reducible refine (HC.out _ H1.out).mono ?_); rintro e w2 ⟨rfl, h2⟩; have H2 := Aside0.mk h2; clear h2))
    go_end0
    exact ⟨rfl, H2.out⟩
set_option maxHeartbeats 1600000 in
theorem taken_program (h : Held w0 w (fchip g q cap s (plainV 57 g) olds :: ts)) (a v : Int) (hv : ¬ (v = 240 ∧ s.raw = false)) (s' : FS)
    (hc : ∀ W, Rested w0 W g q cap s olds ts → Calls Try.prog 57 #[ptr g, .int .i64 a, .int .u8 v] W fun e w' => e = .returned (.tuple #[]) ∧ Chipped w0 w' g s' ts) :
    Calls Try.prog 37 #[ptr g, .int .i64 a, .int .u8 v] w fun e w' => e = .returned (.tuple #[]) ∧ Chipped w0 w' g s' ts := by
  have c2 := fchip_cell h 2 (plainV 57 g) rfl
  have c10 := fchip_cell h 10 (.bool s.raw) rfl
  have f10 := fchip_frozen h 10
  have HR := Lib.hid (rested_of h)
  have HC := Lib.hid hc
  by_cases e : v = 240
  · have hr : s.raw = true := by cases hr : s.raw with
      | true => rfl
      | false => exact absurd ⟨e, hr⟩ hv
    rw [hr] at c10
    clear h hc hv
    subst e
    go_enter Try.func37, Try.ntmps37
    go_wp2
    go_quiet (fail)
    rename_i nq
    go_wp2_with (first
      | (go_at_call 39; (with_reducible refine (HR.out _).mono ?_); rintro e w1 ⟨rfl, h1⟩; have H1 := Aside0.mk h1; clear h1)
      | (go_at_call 57; (with_reducible refine (HC.out _ H1.out).mono ?_); rintro e w2 ⟨rfl, h2⟩; have H2 := Aside0.mk h2; clear h2))
    go_end0
    exact ⟨rfl, H2.out⟩
  · have hb : (v == 240) = false := beq_eq_false_iff_ne.2 e
    generalize s.raw = raw at c10
    clear h hc hv e
    go_enter Try.func37, Try.ntmps37
    go_wp2
    go_quiet (fail)
    rename_i nq
    go_wp2_with (first
      | (go_at_call 39; (with_reducible refine (HR.out _).mono ?_); rintro e w1 ⟨rfl, h1⟩; have H1 := Aside0.mk h1; clear h1)
      | (go_at_call 57; (with_reducible refine (HC.out _ H1.out).mono ?_); rintro e w2 ⟨rfl, h2⟩; have H2 := Aside0.mk h2; clear h2))
    go_end0
    exact ⟨rfl, H2.out⟩
set_option maxHeartbeats 1600000 in
theorem taken_second (g1 g2 : Nat) (h : Held w0 w (fchip g q cap s (secV g1 g2) olds :: ts)) (a v : Int) (hv : ¬ (v = 240 ∧ s.raw = false)) (s' : FS)
    (hc : ∀ W, Rested w0 W g q cap s olds ts → Calls Try.prog 55 #[.int .i64 a, .int .u8 v, ptr g2, ptr g1] W fun e w' => e = .returned (.tuple #[]) ∧ Chipped w0 w' g s' ts) :
    Calls Try.prog 37 #[ptr g, .int .i64 a, .int .u8 v] w fun e w' => e = .returned (.tuple #[]) ∧ Chipped w0 w' g s' ts := by
  have c2 := fchip_cell h 2 (secV g1 g2) rfl
  have c10 := fchip_cell h 10 (.bool s.raw) rfl
  have f10 := fchip_frozen h 10
  have HR := Lib.hid (rested_of h)
  have HC := Lib.hid hc
  by_cases e : v = 240
  · have hr : s.raw = true := by cases hr : s.raw with
      | true => rfl
      | false => exact absurd ⟨e, hr⟩ hv
    rw [hr] at c10
    clear h hc hv
    subst e
    go_enter Try.func37, Try.ntmps37
    go_wp2
    go_quiet (fail)
    rename_i nq
    go_wp2_with (first
      | (go_at_call 39; (with_reducible refine (HR.out _).mono ?_); rintro e w1 ⟨rfl, h1⟩; have H1 := Aside0.mk h1; clear h1)
      | (go_at_call 55; (with_reducible refine (HC.out _ H1.out).mono ?_); rintro e w2 ⟨rfl, h2⟩; have H2 := Aside0.mk h2; clear h2))
    go_end0
    exact ⟨rfl, H2.out⟩
  · have hb : (v == 240) = false := beq_eq_false_iff_ne.2 e
    generalize s.raw = raw at c10
    clear h hc hv e
    go_enter Try.func37, Try.ntmps37
    go_wp2
    go_quiet (fail)
    rename_i nq
    go_wp2_with (first
      | (go_at_call 39; (with_reducible refine (HR.out _).mono ?_); rintro e w1 ⟨rfl, h1⟩; have H1 := Aside0.mk h1; clear h1)
      | (go_at_call 55; (with_reducible refine (HC.out _ H1.out).mono ?_); rintro e w2 ⟨rfl, h2⟩; have H2 := Aside0.mk h2; clear h2))
    go_end0
    exact ⟨rfl, H2.out⟩
set_option maxHeartbeats 1600000 in
theorem taken_first (g1 g3 : Nat) (h : Held w0 w (fchip g q cap s (firV g1 g3) olds :: ts)) (a v : Int) (hv : ¬ (v = 240 ∧ s.raw = false)) (s' : FS)
    (hc : ∀ W, Rested w0 W g q cap s olds ts → Calls Try.prog 56 #[.int .i64 a, .int .u8 v, ptr g3, ptr g1] W fun e w' => e = .returned (.tuple #[]) ∧ Chipped w0 w' g s' ts) :
    Calls Try.prog 37 #[ptr g, .int .i64 a, .int .u8 v] w fun e w' => e = .returned (.tuple #[]) ∧ Chipped w0 w' g s' ts := by
  have c2 := fchip_cell h 2 (firV g1 g3) rfl
  have c10 := fchip_cell h 10 (.bool s.raw) rfl
  have f10 := fchip_frozen h 10
  have HR := Lib.hid (rested_of h)
  have HC := Lib.hid hc
  by_cases e : v = 240
  · have hr : s.raw = true := by cases hr : s.raw with
      | true => rfl
      | false => exact absurd ⟨e, hr⟩ hv
    rw [hr] at c10
    clear h hc hv
    subst e
    go_enter Try.func37, Try.ntmps37
    go_wp2
    go_quiet (fail)
    rename_i nq
    go_wp2_with (first
      | (go_at_call 39; (with_reducible refine (HR.out _).mono ?_); rintro e w1 ⟨rfl, h1⟩; have H1 := Aside0.mk h1; clear h1)
      | (go_at_call 56; (with_reducible refine (HC.out _ H1.out).mono ?_); rintro e w2 ⟨rfl, h2⟩; have H2 := Aside0.mk h2; clear h2))
    go_end0
    exact ⟨rfl, H2.out⟩
  · have hb : (v == 240) = false := beq_eq_false_iff_ne.2 e
    generalize s.raw = raw at c10
    clear h hc hv e
    go_enter Try.func37, Try.ntmps37
    go_wp2
    go_quiet (fail)
    rename_i nq
    go_wp2_with (first
      | (go_at_call 39; (with_reducible refine (HR.out _).mono ?_); rintro e w1 ⟨rfl, h1⟩; have H1 := Aside0.mk h1; clear h1)
      | (go_at_call 56; (with_reducible refine (HC.out _ H1.out).mono ?_); rintro e w2 ⟨rfl, h2⟩; have H2 := Aside0.mk h2; clear h2))
    go_end0
    exact ⟨rfl, H2.out⟩
end
end Go.Proofs.Ytpkgpcolngoicaa.Given
