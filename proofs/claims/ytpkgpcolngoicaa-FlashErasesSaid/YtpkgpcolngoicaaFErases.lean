/- The writes that erase, made and played. -/
import Derived.Test.YtpkgpcolngoicaaAx1
import Derived.Test.YtpkgpcolngoicaaFErase
set_option linter.unusedVariables false
set_option linter.unusedSimpArgs false
namespace Go.Proofs.Ytpkgpcolngoicaa.Given
open Go.RowKit Go.Proofs.Ytpkgpcolngoicaa.All Go.Proofs.Ytpkgpcolngoicaa.Sep Go.Proofs.YtpkgpcolngoicaaW.PrintWords Go.Proofs.YtpkgpcolngoicaaW.PrintLast Go.Proofs.YtpkgpcolngoicaaW.PrintMore

theorem erase_rows {w0 w : World} {ts : List Thing} {g : Nat} {s : FS} (h : Held w0 w (fl g s :: ts)) (hi : Idle s) (hs : s.step = .first .cmd) (a : Int) :
    ∃ l : List S47, (Calls Try.prog 20 #[.int .i64 a] w fun e w' => ∃ A c, e = .returned (.slice A l.length c) ∧ Held w0 w' (fl g s :: row k47 47 (.slice A l.length c) l :: ts)) ∧
      l.length ≤ 100000 ∧ putsS s l = eraS s (place s.data a / 256 * 256) 256 100 := by
  refine ⟨[⟨85, 170⟩, ⟨170, 85⟩, ⟨85, 128⟩, ⟨85, 170⟩, ⟨170, 85⟩, ⟨a, 48⟩], ?_, by simp, sector_puts hi hs a⟩
  refine (keepsakeref11_Erase.calls a _ w rfl).mono fun e w' ⟨v0, he, hR, hb⟩ => ?_
  obtain ⟨A, c, hv⟩ := Kd.R_slice hR
  subst hv
  exact ⟨A, c, he, (h.row_new hR hb).swap⟩
theorem whole_rows {w0 w : World} {ts : List Thing} {g : Nat} {s : FS} (h : Held w0 w (fl g s :: ts)) (hi : Idle s) (hs : s.step = .first .cmd) :
    ∃ l : List S47, (Calls Try.prog 21 #[] w fun e w' => ∃ A c, e = .returned (.slice A l.length c) ∧ Held w0 w' (fl g s :: row k47 47 (.slice A l.length c) l :: ts)) ∧
      l.length ≤ 100000 ∧ putsS s l = eraS s 0 s.data.length 200 := by
  refine ⟨[⟨85, 170⟩, ⟨170, 85⟩, ⟨85, 128⟩, ⟨85, 170⟩, ⟨170, 85⟩, ⟨85, 16⟩], ?_, by simp, whole_puts hi hs⟩
  refine (keepsakeref11_Whole.calls _ w rfl).mono fun e w' ⟨v0, he, hR, hb⟩ => ?_
  obtain ⟨A, c, hv⟩ := Kd.R_slice hR
  subst hv
  exact ⟨A, c, he, (h.row_new hR hb).swap⟩
theorem era_idle {s : FS} (h : Idle s) (x fi mi : Int) : Idle (doneS (eraS s fi mi x)) := ⟨rfl, by rw [era_len]; exact h.n, by rw [era_len]; exact h.m⟩
end Go.Proofs.Ytpkgpcolngoicaa.Given
