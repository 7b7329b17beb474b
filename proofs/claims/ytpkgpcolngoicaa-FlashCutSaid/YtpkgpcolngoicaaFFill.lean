/- The laws' bytes are bytes. -/
import Derived.Test.YtpkgpcolngoicaaAx1
import Derived.Test.YtpkgpcolngoicaaFInv
set_option linter.unusedVariables false
set_option linter.unusedSimpArgs false
namespace Go.Proofs.Ytpkgpcolngoicaa.Given
open Go.RowKit Go.Proofs.Ytpkgpcolngoicaa.All Go.Proofs.Ytpkgpcolngoicaa.Sep Go.Proofs.YtpkgpcolngoicaaW.PrintWords Go.Proofs.YtpkgpcolngoicaaW.PrintLast Go.Proofs.YtpkgpcolngoicaaW.PrintMore

theorem fill_bytes_l0 {b : List Int} (hb : Bytes b) (k : Nat) : ∀ (n i : Int) (out r : List Int), Bytes out → keepsakeref10_Fill.l0 k b n out i = some r → Bytes r := by
  induction k with
  | zero => intro n i out r _ h; cases h
  | succ k ih =>
    intro n i out r ho h
    rw [keepsakeref10_Fill.l0] at h
    repeat' split at h
    all_goals first
      | exact ih _ _ _ _ (set_bytes ho _ (rd_byte hb _)) h
      | (injection h with h; subst h; exact ho)
      | exact absurd h (by simp)
theorem fill_bytes {b : List Int} (hb : Bytes b) (m : Int) : Bytes (fillOf b m) := by
  unfold fillOf
  cases h : keepsakeref10_Fill.f (m.toNat + 1) b m with
  | none => intro x hx; cases hx
  | some r =>
    show Bytes r
    unfold keepsakeref10_Fill.f at h
    repeat' split at h
    all_goals first
      | exact fill_bytes_l0 hb _ _ _ _ _ (fun x hx => by have := List.eq_of_mem_replicate hx; omega) h
      | exact absurd h (by simp)
end Go.Proofs.Ytpkgpcolngoicaa.Given
