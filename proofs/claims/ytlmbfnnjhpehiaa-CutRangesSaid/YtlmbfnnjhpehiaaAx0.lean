-- written by a program of mine (xprint_patch.py over the kit's print)
import Derived.Test.YtlmbfnnjhpehiaaProg
import Derived.Below
import Derived.Deep.Draws
import Derived.Deep.AppendLies
import Derived.Maps.AppendAt
import Derived.OwnWalk
import Derived.Laws.BytesArg
import Derived.Laws.MakeOwn
import Derived.Laws.OwnMore
import Derived.Deep.OwnRows
import Derived.Tactics
import Derived.Lib.ConvBytes
import Derived.Laws.Slices
import Derived.WalkKit
import Derived.KernelRfl
import Derived.RowKit3
import Derived.Deep.LoopGhost
import Derived.Deep.QuietTactic
import Derived.BigQuiet
import Derived.WideLaws
import Derived.Deep.DeepCutAuto
import Derived.Deep.CutBlock
import Derived.Deep.RegionHeld3
import Derived.Laws.Rows
import Derived.Lib.AppendStr
import Derived.ArgAppend
import Derived.Laws.IdiomCopy
import Derived.OrdersHeld
import Derived.Laws.BitsLemmas
import Derived.RowKit
import Derived.Test.YtlmbfnnjhpehiaaWWords
import Derived.Test.YtlmbfnnjhpehiaaWLast
import Derived.Test.YtlmbfnnjhpehiaaWTab
import Derived.Test.YtlmbfnnjhpehiaaWFour
import Derived.Test.YtlmbfnnjhpehiaaWQPut
import Derived.Test.YtlmbfnnjhpehiaaWApart
import Derived.Test.YtlmbfnnjhpehiaaWArr
import Derived.Test.YtlmbfnnjhpehiaaWZeros
import Derived.Test.YtlmbfnnjhpehiaaWFoot
import Derived.Test.YtlmbfnnjhpehiaaWKept
import Derived.Test.YtlmbfnnjhpehiaaWShare
import Derived.Test.YtlmbfnnjhpehiaaWN
import Derived.Test.YtlmbfnnjhpehiaaWFootNe
import Derived.Test.YtlmbfnnjhpehiaaWAt
import Derived.Test.YtlmbfnnjhpehiaaWEqStruct
import Derived.Test.YtlmbfnnjhpehiaaWRepsOne
import Derived.Test.YtlmbfnnjhpehiaaWInv
import Derived.Test.YtlmbfnnjhpehiaaWInvWords
import Derived.Test.YtlmbfnnjhpehiaaWGuard
import Derived.Test.YtlmbfnnjhpehiaaWNEv
import Derived.Test.YtlmbfnnjhpehiaaWMore
namespace Go.Proofs.Ytlmbfnnjhpehiaa.Given
end Go.Proofs.Ytlmbfnnjhpehiaa.Given
namespace Go.Proofs.Ytlmbfnnjhpehiaa.All
open Go.Proofs.Ytlmbfnnjhpehiaa.Given
open Go.RowKit Go.Proofs.YtlmbfnnjhpehiaaW.PrintWords Go.Proofs.YtlmbfnnjhpehiaaW.PrintLast Go.Proofs.YtlmbfnnjhpehiaaW.PrintMore
attribute [local go_sem] max2_int min2_int max_two min_two max_three min_three max_four min_four   -- for this text's walks alone
set_option linter.unusedVariables false
set_option linter.unusedSimpArgs false



def errW : Option Int → Value
  | none => .nilIface
  | some c => .iface 0 (.int .i64 c)
theorem errW_none : errW none = .nilIface := rfl
theorem errW_some (c : Int) : errW (some c) = .iface 0 (.int .i64 c) := rfl

theorem info3 : (Try.prog.info? 3).map (fun i => (i.zero, i.size, i.bytes)) = some (some (.int .i64 0), 1, 8) := by kernel_rfl
theorem info5 : (Try.prog.info? 5).map (fun i => (i.zero, i.size, i.bytes)) = some (some (.int .u8 0), 1, 1) := by kernel_rfl
-- the values' own types

end Go.Proofs.Ytlmbfnnjhpehiaa.All
