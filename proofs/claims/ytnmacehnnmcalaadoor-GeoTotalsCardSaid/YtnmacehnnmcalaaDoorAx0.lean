-- written by a program of mine (xprint_patch.py over the kit's print)
import Derived.Test.YtnmacehnnmcalaaDoorProg
import Derived.Below
import Derived.Deep.Draws
import Derived.Deep.AppendLies
import Derived.Maps.AppendAt
import Derived.OwnWalk
import Derived.Laws.BytesArg
import Derived.Laws.MakeOwn
import Derived.Laws.OwnMore
import Derived.Deep.OwnRows
import Derived.Tactics
import Derived.Lib.ConvBytes
import Derived.Laws.Slices
import Derived.WalkKit
import Derived.KernelRfl
import Derived.RowKit3
import Derived.Deep.LoopGhost
import Derived.Deep.QuietTactic
import Derived.BigQuiet
import Derived.WideLaws
import Derived.Deep.DeepCutAuto
import Derived.Deep.CutBlock
import Derived.Deep.RegionHeld3
import Derived.Laws.Rows
import Derived.Lib.AppendStr
import Derived.ArgAppend
import Derived.Laws.IdiomCopy
import Derived.OrdersHeld
import Derived.Laws.BitsLemmas
import Derived.RowKit
import Derived.Test.YtnmacehnnmcalaaDoorGeo
import Derived.Test.YtnmacehnnmcalaaDoorWWords
import Derived.Test.YtnmacehnnmcalaaDoorWLast
import Derived.Test.YtnmacehnnmcalaaDoorWTab
import Derived.Test.YtnmacehnnmcalaaDoorWFour
import Derived.Test.YtnmacehnnmcalaaDoorWQPut
import Derived.Test.YtnmacehnnmcalaaDoorWApart
import Derived.Test.YtnmacehnnmcalaaDoorWArr
import Derived.Test.YtnmacehnnmcalaaDoorWZeros
import Derived.Test.YtnmacehnnmcalaaDoorWFoot
import Derived.Test.YtnmacehnnmcalaaDoorWKept
import Derived.Test.YtnmacehnnmcalaaDoorWShare
import Derived.Test.YtnmacehnnmcalaaDoorWN
import Derived.Test.YtnmacehnnmcalaaDoorWFootNe
import Derived.Test.YtnmacehnnmcalaaDoorWAt
import Derived.Test.YtnmacehnnmcalaaDoorWEqStruct
import Derived.Test.YtnmacehnnmcalaaDoorWRepsOne
import Derived.Test.YtnmacehnnmcalaaDoorWInv
import Derived.Test.YtnmacehnnmcalaaDoorWInvWords
import Derived.Test.YtnmacehnnmcalaaDoorWGuard
import Derived.Test.YtnmacehnnmcalaaDoorWNEv
import Derived.Test.YtnmacehnnmcalaaDoorWMore
namespace Go.Proofs.YtnmacehnnmcalaaDoor.All
open Go.Proofs.YtnmacehnnmcalaaDoor.Given
open Go.RowKit Go.Proofs.YtnmacehnnmcalaaDoorW.PrintWords Go.Proofs.YtnmacehnnmcalaaDoorW.PrintLast Go.Proofs.YtnmacehnnmcalaaDoorW.PrintMore
attribute [local go_sem] max2_int min2_int max_two min_two max_three min_three max_four min_four   -- for this text's walks alone
set_option linter.unusedVariables false
set_option linter.unusedSimpArgs false



def errW : Option Int → Value
  | none => .nilIface
  | some c => .iface 0 (.int .i64 c)
theorem errW_none : errW none = .nilIface := rfl
theorem errW_some (c : Int) : errW (some c) = .iface 0 (.int .i64 c) := rfl

theorem info3 : (Tryd.prog.info? 3).map (fun i => (i.zero, i.size, i.bytes)) = some (some (.int .i64 0), 1, 8) := by kernel_rfl
-- the values' own types

end Go.Proofs.YtnmacehnnmcalaaDoor.All
