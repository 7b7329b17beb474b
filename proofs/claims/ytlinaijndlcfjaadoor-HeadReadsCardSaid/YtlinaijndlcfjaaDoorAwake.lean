/- The chapter's example. -/
import Derived.Test.YtlinaijndlcfjaaDoorAx6
set_option linter.unusedVariables false
set_option linter.unusedSimpArgs false
namespace Go.Proofs.YtlinaijndlcfjaaDoor.Enc
open Go.RowKit Go.Proofs.YtlinaijndlcfjaaDoor.All Go.Proofs.YtlinaijndlcfjaaDoor.Given Go.Proofs.YtlinaijndlcfjaaDoorW.PrintWords Go.Proofs.YtlinaijndlcfjaaDoorW.PrintLast

theorem awake300 : keepsakelaw04_awake.f 300 = some true := by decide +kernel
theorem awake (k : Nat) : keepsakelaw04_awake.f (300 + k) = some true := by
  induction k with
  | zero => exact awake300
  | succ k ih => exact keepsakelaw04_awake.mono (300 + k) _ ih

end Go.Proofs.YtlinaijndlcfjaaDoor.Enc
