/- The chapter's example. -/
import Derived.Test.YtlmbfnnjhpehiaaAx2
import Derived.Test.YtlmbfnnjhpehiaaCut
set_option linter.unusedVariables false
set_option linter.unusedSimpArgs false
namespace Go.Proofs.Ytlmbfnnjhpehiaa.Cut
open Go.RowKit Go.Proofs.Ytlmbfnnjhpehiaa.All Go.Proofs.Ytlmbfnnjhpehiaa.Given Go.Proofs.YtlmbfnnjhpehiaaW.PrintWords Go.Proofs.YtlmbfnnjhpehiaaW.PrintLast

theorem awake_f (k : Nat) (hk : 10 ≤ k) : keepsakelaw08_awake.f k = some true := by
  unfold keepsakelaw08_awake.f
  rw [Cells_f _ _ _ (by decide) (by decide), Option.bind_some, show cells [1, 2, 3] [2, 0] [9, 8] = [8, 2, 9] from by decide, Same.same_f _ _ (by decide) k (by simp; omega), Option.bind_some, if_pos (by decide),
    apart_f _ _ (by decide) (by decide) k (by simp; omega), Option.bind_some, show apart [1, 2] [1] = [1] from by decide, Ints.ints_f _ _ (by decide) k (by simp; omega), Option.bind_some]
  rfl

end Go.Proofs.Ytlmbfnnjhpehiaa.Cut
