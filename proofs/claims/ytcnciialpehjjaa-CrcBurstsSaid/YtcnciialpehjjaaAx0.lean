-- written by a program of mine (xprint_patch.py over the kit's print)
import Derived.Test.YtcnciialpehjjaaProg
import Derived.Below
import Derived.Deep.Draws
import Derived.Deep.AppendLies
import Derived.Maps.AppendAt
import Derived.OwnWalk
import Derived.Laws.BytesArg
import Derived.Laws.MakeOwn
import Derived.Laws.OwnMore
import Derived.Deep.OwnRows
import Derived.Tactics
import Derived.Lib.ConvBytes
import Derived.Laws.Slices
import Derived.WalkKit
import Derived.KernelRfl
import Derived.RowKit3
import Derived.Deep.LoopGhost
import Derived.Deep.QuietTactic
import Derived.BigQuiet
import Derived.WideLaws
import Derived.Deep.DeepCutAuto
import Derived.Deep.CutBlock
import Derived.Deep.RegionHeld3
import Derived.Laws.Rows
import Derived.Lib.AppendStr
import Derived.ArgAppend
import Derived.Laws.IdiomCopy
import Derived.OrdersHeld
import Derived.Laws.BitsLemmas
import Derived.RowKit
import Derived.Test.YtcnciialpehjjaaGiven
import Derived.Test.YtcnciialpehjjaaWWords
import Derived.Test.YtcnciialpehjjaaWLast
import Derived.Test.YtcnciialpehjjaaWTab
import Derived.Test.YtcnciialpehjjaaWFour
import Derived.Test.YtcnciialpehjjaaWQPut
import Derived.Test.YtcnciialpehjjaaWApart
import Derived.Test.YtcnciialpehjjaaWArr
import Derived.Test.YtcnciialpehjjaaWZeros
import Derived.Test.YtcnciialpehjjaaWFoot
import Derived.Test.YtcnciialpehjjaaWKept
import Derived.Test.YtcnciialpehjjaaWShare
import Derived.Test.YtcnciialpehjjaaWN
import Derived.Test.YtcnciialpehjjaaWFootNe
import Derived.Test.YtcnciialpehjjaaWAt
import Derived.Test.YtcnciialpehjjaaWEqStruct
import Derived.Test.YtcnciialpehjjaaWRepsOne
import Derived.Test.YtcnciialpehjjaaWInv
import Derived.Test.YtcnciialpehjjaaWInvWords
import Derived.Test.YtcnciialpehjjaaWGuard
import Derived.Test.YtcnciialpehjjaaWNEv
import Derived.Test.YtcnciialpehjjaaWMore
namespace Go.Proofs.Ytcnciialpehjjaa.All
open Go.Proofs.Ytcnciialpehjjaa.Given
open Go.RowKit Go.Proofs.YtcnciialpehjjaaW.PrintWords Go.Proofs.YtcnciialpehjjaaW.PrintLast Go.Proofs.YtcnciialpehjjaaW.PrintMore
attribute [local go_sem] max2_int min2_int max_two min_two max_three min_three max_four min_four   -- for this text's walks alone
set_option linter.unusedVariables false
set_option linter.unusedSimpArgs false



def errW : Option Int → Value
  | none => .nilIface
  | some c => .iface 0 (.int .i64 c)
theorem errW_none : errW none = .nilIface := rfl
theorem errW_some (c : Int) : errW (some c) = .iface 0 (.int .i64 c) := rfl

theorem info3 : (Try.prog.info? 3).map (fun i => (i.zero, i.size, i.bytes)) = some (some (.int .i64 0), 1, 8) := by kernel_rfl
theorem info4 : (Try.prog.info? 4).map (fun i => (i.zero, i.size, i.bytes)) = some (some (.bool false), 1, 1) := by kernel_rfl
theorem info5 : (Try.prog.info? 5).map (fun i => (i.zero, i.size, i.bytes)) = some (some (.int .u8 0), 1, 1) := by kernel_rfl
-- the values' own types

end Go.Proofs.Ytcnciialpehjjaa.All
