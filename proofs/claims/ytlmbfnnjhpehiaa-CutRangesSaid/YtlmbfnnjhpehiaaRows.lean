/-
  No cell of these rows narrows 'for every input' (looked for: loops, veiled, ifaces, maps, wideKeys, modest, calm, conditions, laid).
  DERIVED. THE GIVEN ROWS OF THIS SEAT. 6 by the template 'for every input the law returns true; each argument reads behind the call as it read before'; 0 by the template 'total and deterministic' (their statements: YtlmbfnnjhpehiaaTotals.lean).
  GIVEN WITH THE SEED: the statements are not yours to turn. If you find one false, say at which input.
  Laid BY PROGRAM, IN A SANDBOX (cutbox-rows.mjs): the forced cells as the released guide's own fill.sh prints them over the translation 6c881180f178433a… (all of the seat's roots in one cut). By AI agents, Wed Nov 11 2026. No macro, syntax, notation, axiom, sorry.
-/
import Derived.Test.YtlmbfnnjhpehiaaChecked
import GoSem.Claim
import GoSem.ClaimJoined
import GoSem.ClaimMapViews
import Derived.JoinedTies
import Derived.KernelRfl
namespace Go.Proofs.Ytlmbfnnjhpehiaa
/- THE CELL 'sum', in the pinned program and in every row, IS THE sha256 OF THE DUMP (.gsa) THAT YtlmbfnnjhpehiaaProg.lean LOADS. Nothing in Lean hashes anything: it is a label: what it is worth is what the hold of that sum in a sandbox is worth. -/
noncomputable def Try.pinned : Pinned := { name := "ytlmbfnnjhpehiaa", sum := "6c881180f178433ae9f26fb6a1bd55ccfafc723c516067a4807df36e50880334", checked := Try.checked }
namespace Rows
def none {H : Type} : Left H := { results := [], args := [] }

/-- 'keepsakelaw08.CutTells': WHATEVER THE INPUT: true; the input reads as it did. -/
def cutTellsSpec : ChangeSpec := { name := "cutTells", fn := fun _ => fun
  | [d1, d2, d3, d4] => { results := [.lit (.bool true)], args := [d1, d2, d3, d4] }
  | _ => none }
def cutTellsRow : OpenClaim := { program := "ytlmbfnnjhpehiaa", sum := "6c881180f178433ae9f26fb6a1bd55ccfafc723c516067a4807df36e50880334", func := "keepsake/keepsakelaw08.CutTells", spec := "cutTells", unfollowed := true, recurses := true, apart := false }
def CutTellsSaid : Prop := cutTellsRow.holds Try.pinned (OpenSpec.ofChange cutTellsSpec)

/-- ITS FALSE NEIGHBOUR: 'it returns false'. Refute it at one input. -/
def cutTellsWrong : ChangeSpec := { name := "cutTells", fn := fun _ => fun
  | [d1, d2, d3, d4] => { results := [.lit (.bool false)], args := [d1, d2, d3, d4] }
  | _ => none }
def CutTellsWrongFalsely : Prop := cutTellsRow.holds Try.pinned (OpenSpec.ofChange cutTellsWrong)

/-- 'keepsakelaw08.CutBits': WHATEVER THE INPUT: true; the input reads as it did. -/
def cutBitsSpec : ChangeSpec := { name := "cutBits", fn := fun _ => fun
  | [d1, d2, d3] => { results := [.lit (.bool true)], args := [d1, d2, d3] }
  | _ => none }
def cutBitsRow : OpenClaim := { program := "ytlmbfnnjhpehiaa", sum := "6c881180f178433ae9f26fb6a1bd55ccfafc723c516067a4807df36e50880334", func := "keepsake/keepsakelaw08.CutBits", spec := "cutBits", unfollowed := true, recurses := true, apart := false }
def CutBitsSaid : Prop := cutBitsRow.holds Try.pinned (OpenSpec.ofChange cutBitsSpec)

/-- ITS FALSE NEIGHBOUR: 'it returns false'. Refute it at one input. -/
def cutBitsWrong : ChangeSpec := { name := "cutBits", fn := fun _ => fun
  | [d1, d2, d3] => { results := [.lit (.bool false)], args := [d1, d2, d3] }
  | _ => none }
def CutBitsWrongFalsely : Prop := cutBitsRow.holds Try.pinned (OpenSpec.ofChange cutBitsWrong)

/-- 'keepsakelaw08.CutOutside': WHATEVER THE INPUT: true; the input reads as it did. -/
def cutOutsideSpec : ChangeSpec := { name := "cutOutside", fn := fun _ => fun
  | [d1, d2, d3, d4, d5] => { results := [.lit (.bool true)], args := [d1, d2, d3, d4, d5] }
  | _ => none }
def cutOutsideRow : OpenClaim := { program := "ytlmbfnnjhpehiaa", sum := "6c881180f178433ae9f26fb6a1bd55ccfafc723c516067a4807df36e50880334", func := "keepsake/keepsakelaw08.CutOutside", spec := "cutOutside", unfollowed := true, recurses := true, apart := false }
def CutOutsideSaid : Prop := cutOutsideRow.holds Try.pinned (OpenSpec.ofChange cutOutsideSpec)

/-- ITS FALSE NEIGHBOUR: 'it returns false'. Refute it at one input. -/
def cutOutsideWrong : ChangeSpec := { name := "cutOutside", fn := fun _ => fun
  | [d1, d2, d3, d4, d5] => { results := [.lit (.bool false)], args := [d1, d2, d3, d4, d5] }
  | _ => none }
def CutOutsideWrongFalsely : Prop := cutOutsideRow.holds Try.pinned (OpenSpec.ofChange cutOutsideWrong)

/-- 'keepsakelaw08.CutAll': WHATEVER THE INPUT: true; the input reads as it did. -/
def cutAllSpec : ChangeSpec := { name := "cutAll", fn := fun _ => fun
  | [d1, d2] => { results := [.lit (.bool true)], args := [d1, d2] }
  | _ => none }
def cutAllRow : OpenClaim := { program := "ytlmbfnnjhpehiaa", sum := "6c881180f178433ae9f26fb6a1bd55ccfafc723c516067a4807df36e50880334", func := "keepsake/keepsakelaw08.CutAll", spec := "cutAll", unfollowed := true, recurses := true, apart := false }
def CutAllSaid : Prop := cutAllRow.holds Try.pinned (OpenSpec.ofChange cutAllSpec)

/-- ITS FALSE NEIGHBOUR: 'it returns false'. Refute it at one input. -/
def cutAllWrong : ChangeSpec := { name := "cutAll", fn := fun _ => fun
  | [d1, d2] => { results := [.lit (.bool false)], args := [d1, d2] }
  | _ => none }
def CutAllWrongFalsely : Prop := cutAllRow.holds Try.pinned (OpenSpec.ofChange cutAllWrong)

/-- 'keepsakelaw08.CutTwice': WHATEVER THE INPUT: true; the input reads as it did. -/
def cutTwiceSpec : ChangeSpec := { name := "cutTwice", fn := fun _ => fun
  | [d1, d2, d3, d4, d5] => { results := [.lit (.bool true)], args := [d1, d2, d3, d4, d5] }
  | _ => none }
def cutTwiceRow : OpenClaim := { program := "ytlmbfnnjhpehiaa", sum := "6c881180f178433ae9f26fb6a1bd55ccfafc723c516067a4807df36e50880334", func := "keepsake/keepsakelaw08.CutTwice", spec := "cutTwice", unfollowed := true, recurses := true, apart := false }
def CutTwiceSaid : Prop := cutTwiceRow.holds Try.pinned (OpenSpec.ofChange cutTwiceSpec)

/-- ITS FALSE NEIGHBOUR: 'it returns false'. Refute it at one input. -/
def cutTwiceWrong : ChangeSpec := { name := "cutTwice", fn := fun _ => fun
  | [d1, d2, d3, d4, d5] => { results := [.lit (.bool false)], args := [d1, d2, d3, d4, d5] }
  | _ => none }
def CutTwiceWrongFalsely : Prop := cutTwiceRow.holds Try.pinned (OpenSpec.ofChange cutTwiceWrong)

/-- 'keepsakelaw08.CutRanges': WHATEVER THE INPUT: true; the input reads as it did. -/
def cutRangesSpec : ChangeSpec := { name := "cutRanges", fn := fun _ => fun
  | [d1, d2, d3, d4, d5, d6] => { results := [.lit (.bool true)], args := [d1, d2, d3, d4, d5, d6] }
  | _ => none }
def cutRangesRow : OpenClaim := { program := "ytlmbfnnjhpehiaa", sum := "6c881180f178433ae9f26fb6a1bd55ccfafc723c516067a4807df36e50880334", func := "keepsake/keepsakelaw08.CutRanges", spec := "cutRanges", unfollowed := true, recurses := true, apart := false }
def CutRangesSaid : Prop := cutRangesRow.holds Try.pinned (OpenSpec.ofChange cutRangesSpec)

/-- ITS FALSE NEIGHBOUR: 'it returns false'. Refute it at one input. -/
def cutRangesWrong : ChangeSpec := { name := "cutRanges", fn := fun _ => fun
  | [d1, d2, d3, d4, d5, d6] => { results := [.lit (.bool false)], args := [d1, d2, d3, d4, d5, d6] }
  | _ => none }
def CutRangesWrongFalsely : Prop := cutRangesRow.holds Try.pinned (OpenSpec.ofChange cutRangesWrong)

/- THE SECOND FORM. 'bulk': how many values and letters a reading holds, each counted each time it is reached (what is shared counts as often as it is met; a slice's spare places count too). A statement '..UptoSaid' is the law's where the arguments, and the package variables that the reading takes, are together of bulk at most 1048576: NARROWER than '..Said'. Prove '..Said' where nothing that the law and all that it calls make is longer than what came in: it says more and counts as full. Else prove '..UptoSaid'. A law counts once. -/
mutual
def uptoBulk {H : Type} : DataW H → Nat
  | .lit (.string bytes) => bytes.length + 1
  | .lit _ => 1
  | .nil => 1
  | .ptr d => uptoBulk d + 1
  | .slice elems spare => uptoBulkAll elems + uptoBulkAll spare + 1
  | .agg parts => uptoBulkAll parts + 1
  | .iface _ d => uptoBulk d + 1
  | .map entries => uptoBulkEntries entries + 1
  | .held _ => 1
def uptoBulkAll {H : Type} : List (DataW H) → Nat
  | [] => 0
  | d :: r => uptoBulk d + uptoBulkAll r
def uptoBulkEntries {H : Type} : List (Lit × DataW H) → Nat
  | [] => 0
  | x :: r => uptoBulkEntry x + uptoBulkEntries r
def uptoBulkEntry {H : Type} : Lit × DataW H → Nat
  | (.string bytes, d) => bytes.length + uptoBulk d + 1
  | (_, d) => uptoBulk d + 1
 end
def uptoSmall : (H : Type) → List (DataW H) → Bool := fun _ ds => decide (uptoBulkAll ds ≤ 1048576)
def OpenSpec.upto (s : _root_.Go.ChangeSpec) : _root_.Go.OpenSpec := { _root_.Go.OpenSpec.ofChange s with cond := some uptoSmall }

/-- 'keepsakelaw08.CutTells', WHERE WHAT IT READS IS OF BULK AT MOST 1048576: true; the input reads as it did. -/
def cutTellsUptoRow : OpenClaim := { program := "ytlmbfnnjhpehiaa", sum := "6c881180f178433ae9f26fb6a1bd55ccfafc723c516067a4807df36e50880334", func := "keepsake/keepsakelaw08.CutTells", spec := "cutTells", unfollowed := true, recurses := true, apart := false, narrowed := true }
def CutTellsUptoSaid : Prop := cutTellsUptoRow.holds Try.pinned (OpenSpec.upto cutTellsSpec)

/-- 'keepsakelaw08.CutBits', WHERE WHAT IT READS IS OF BULK AT MOST 1048576: true; the input reads as it did. -/
def cutBitsUptoRow : OpenClaim := { program := "ytlmbfnnjhpehiaa", sum := "6c881180f178433ae9f26fb6a1bd55ccfafc723c516067a4807df36e50880334", func := "keepsake/keepsakelaw08.CutBits", spec := "cutBits", unfollowed := true, recurses := true, apart := false, narrowed := true }
def CutBitsUptoSaid : Prop := cutBitsUptoRow.holds Try.pinned (OpenSpec.upto cutBitsSpec)

/-- 'keepsakelaw08.CutOutside', WHERE WHAT IT READS IS OF BULK AT MOST 1048576: true; the input reads as it did. -/
def cutOutsideUptoRow : OpenClaim := { program := "ytlmbfnnjhpehiaa", sum := "6c881180f178433ae9f26fb6a1bd55ccfafc723c516067a4807df36e50880334", func := "keepsake/keepsakelaw08.CutOutside", spec := "cutOutside", unfollowed := true, recurses := true, apart := false, narrowed := true }
def CutOutsideUptoSaid : Prop := cutOutsideUptoRow.holds Try.pinned (OpenSpec.upto cutOutsideSpec)

/-- 'keepsakelaw08.CutAll', WHERE WHAT IT READS IS OF BULK AT MOST 1048576: true; the input reads as it did. -/
def cutAllUptoRow : OpenClaim := { program := "ytlmbfnnjhpehiaa", sum := "6c881180f178433ae9f26fb6a1bd55ccfafc723c516067a4807df36e50880334", func := "keepsake/keepsakelaw08.CutAll", spec := "cutAll", unfollowed := true, recurses := true, apart := false, narrowed := true }
def CutAllUptoSaid : Prop := cutAllUptoRow.holds Try.pinned (OpenSpec.upto cutAllSpec)

/-- 'keepsakelaw08.CutTwice', WHERE WHAT IT READS IS OF BULK AT MOST 1048576: true; the input reads as it did. -/
def cutTwiceUptoRow : OpenClaim := { program := "ytlmbfnnjhpehiaa", sum := "6c881180f178433ae9f26fb6a1bd55ccfafc723c516067a4807df36e50880334", func := "keepsake/keepsakelaw08.CutTwice", spec := "cutTwice", unfollowed := true, recurses := true, apart := false, narrowed := true }
def CutTwiceUptoSaid : Prop := cutTwiceUptoRow.holds Try.pinned (OpenSpec.upto cutTwiceSpec)

/-- 'keepsakelaw08.CutRanges', WHERE WHAT IT READS IS OF BULK AT MOST 1048576: true; the input reads as it did. -/
def cutRangesUptoRow : OpenClaim := { program := "ytlmbfnnjhpehiaa", sum := "6c881180f178433ae9f26fb6a1bd55ccfafc723c516067a4807df36e50880334", func := "keepsake/keepsakelaw08.CutRanges", spec := "cutRanges", unfollowed := true, recurses := true, apart := false, narrowed := true }
def CutRangesUptoSaid : Prop := cutRangesUptoRow.holds Try.pinned (OpenSpec.upto cutRangesSpec)

end Rows
end Go.Proofs.Ytlmbfnnjhpehiaa
