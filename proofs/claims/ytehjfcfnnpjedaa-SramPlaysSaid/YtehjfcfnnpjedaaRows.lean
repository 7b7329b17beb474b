/-
  No cell of these rows narrows 'for every input' (looked for: loops, veiled, ifaces, maps, wideKeys, modest, calm, conditions, laid).
  DERIVED. THE GIVEN ROWS OF THIS SEAT. 5 by the template 'for every input the law returns true; each argument reads behind the call as it read before'; 0 by the template 'total and deterministic' (their statements: YtehjfcfnnpjedaaTotals.lean).
  GIVEN WITH THE SEED: the statements are not yours to turn. If you find one false, say at which input.
  Laid BY PROGRAM, IN A SANDBOX (cutbox-rows.mjs): the forced cells as the released guide's own fill.sh prints them over the translation 958e9e16287e203a… (all of the seat's roots in one cut). By AI agents, Wed Nov 11 2026. No macro, syntax, notation, axiom, sorry.
-/
import Derived.Test.YtehjfcfnnpjedaaChecked
import GoSem.Claim
import GoSem.ClaimJoined
import GoSem.ClaimMapViews
import Derived.JoinedTies
import Derived.KernelRfl
namespace Go.Proofs.Ytehjfcfnnpjedaa
/- THE CELL 'sum', in the pinned program and in every row, IS THE sha256 OF THE DUMP (.gsa) THAT YtehjfcfnnpjedaaProg.lean LOADS. Nothing in Lean hashes anything: it is a label: what it is worth is what the hold of that sum in a sandbox is worth. -/
noncomputable def Try.pinned : Pinned := { name := "ytehjfcfnnpjedaa", sum := "958e9e16287e203a5f87ff7b5d94fc0a52f5fdd3f65aac857a907724d247fd1b", checked := Try.checked }
namespace Rows
def none {H : Type} : Left H := { results := [], args := [] }

/-- 'keepsakelaw12.SramPlays': WHATEVER THE INPUT: true; the input reads as it did. -/
def sramPlaysSpec : ChangeSpec := { name := "sramPlays", fn := fun _ => fun
  | [d1, d2, d3] => { results := [.lit (.bool true)], args := [d1, d2, d3] }
  | _ => none }
def sramPlaysRow : OpenClaim := { program := "ytehjfcfnnpjedaa", sum := "958e9e16287e203a5f87ff7b5d94fc0a52f5fdd3f65aac857a907724d247fd1b", func := "keepsake/keepsakelaw12.SramPlays", spec := "sramPlays", apart := false }
def SramPlaysSaid : Prop := sramPlaysRow.holds Try.pinned (OpenSpec.ofChange sramPlaysSpec)

/-- ITS FALSE NEIGHBOUR: 'it returns false'. Refute it at one input. -/
def sramPlaysWrong : ChangeSpec := { name := "sramPlays", fn := fun _ => fun
  | [d1, d2, d3] => { results := [.lit (.bool false)], args := [d1, d2, d3] }
  | _ => none }
def SramPlaysWrongFalsely : Prop := sramPlaysRow.holds Try.pinned (OpenSpec.ofChange sramPlaysWrong)

/-- 'keepsakelaw12.SramNew': WHATEVER THE INPUT: true; the input reads as it did. -/
def sramNewSpec : ChangeSpec := { name := "sramNew", fn := fun _ => fun
  | [d1, d2] => { results := [.lit (.bool true)], args := [d1, d2] }
  | _ => none }
def sramNewRow : OpenClaim := { program := "ytehjfcfnnpjedaa", sum := "958e9e16287e203a5f87ff7b5d94fc0a52f5fdd3f65aac857a907724d247fd1b", func := "keepsake/keepsakelaw12.SramNew", spec := "sramNew", apart := false }
def SramNewSaid : Prop := sramNewRow.holds Try.pinned (OpenSpec.ofChange sramNewSpec)

/-- ITS FALSE NEIGHBOUR: 'it returns false'. Refute it at one input. -/
def sramNewWrong : ChangeSpec := { name := "sramNew", fn := fun _ => fun
  | [d1, d2] => { results := [.lit (.bool false)], args := [d1, d2] }
  | _ => none }
def SramNewWrongFalsely : Prop := sramNewRow.holds Try.pinned (OpenSpec.ofChange sramNewWrong)

/-- 'keepsakelaw12.SramLocked': WHATEVER THE INPUT: true; the input reads as it did. -/
def sramLockedSpec : ChangeSpec := { name := "sramLocked", fn := fun _ => fun
  | [d1, d2, d3, d4, d5] => { results := [.lit (.bool true)], args := [d1, d2, d3, d4, d5] }
  | _ => none }
def sramLockedRow : OpenClaim := { program := "ytehjfcfnnpjedaa", sum := "958e9e16287e203a5f87ff7b5d94fc0a52f5fdd3f65aac857a907724d247fd1b", func := "keepsake/keepsakelaw12.SramLocked", spec := "sramLocked", apart := false }
def SramLockedSaid : Prop := sramLockedRow.holds Try.pinned (OpenSpec.ofChange sramLockedSpec)

/-- ITS FALSE NEIGHBOUR: 'it returns false'. Refute it at one input. -/
def sramLockedWrong : ChangeSpec := { name := "sramLocked", fn := fun _ => fun
  | [d1, d2, d3, d4, d5] => { results := [.lit (.bool false)], args := [d1, d2, d3, d4, d5] }
  | _ => none }
def SramLockedWrongFalsely : Prop := sramLockedRow.holds Try.pinned (OpenSpec.ofChange sramLockedWrong)

/-- 'keepsakelaw12.SramOpen': WHATEVER THE INPUT: true; the input reads as it did. -/
def sramOpenSpec : ChangeSpec := { name := "sramOpen", fn := fun _ => fun
  | [d1, d2, d3, d4, d5] => { results := [.lit (.bool true)], args := [d1, d2, d3, d4, d5] }
  | _ => none }
def sramOpenRow : OpenClaim := { program := "ytehjfcfnnpjedaa", sum := "958e9e16287e203a5f87ff7b5d94fc0a52f5fdd3f65aac857a907724d247fd1b", func := "keepsake/keepsakelaw12.SramOpen", spec := "sramOpen", apart := false }
def SramOpenSaid : Prop := sramOpenRow.holds Try.pinned (OpenSpec.ofChange sramOpenSpec)

/-- ITS FALSE NEIGHBOUR: 'it returns false'. Refute it at one input. -/
def sramOpenWrong : ChangeSpec := { name := "sramOpen", fn := fun _ => fun
  | [d1, d2, d3, d4, d5] => { results := [.lit (.bool false)], args := [d1, d2, d3, d4, d5] }
  | _ => none }
def SramOpenWrongFalsely : Prop := sramOpenRow.holds Try.pinned (OpenSpec.ofChange sramOpenWrong)

/-- 'keepsakelaw12.SramCopies': WHATEVER THE INPUT: true; the input reads as it did. -/
def sramCopiesSpec : ChangeSpec := { name := "sramCopies", fn := fun _ => fun
  | [d1, d2, d3, d4] => { results := [.lit (.bool true)], args := [d1, d2, d3, d4] }
  | _ => none }
def sramCopiesRow : OpenClaim := { program := "ytehjfcfnnpjedaa", sum := "958e9e16287e203a5f87ff7b5d94fc0a52f5fdd3f65aac857a907724d247fd1b", func := "keepsake/keepsakelaw12.SramCopies", spec := "sramCopies", apart := false }
def SramCopiesSaid : Prop := sramCopiesRow.holds Try.pinned (OpenSpec.ofChange sramCopiesSpec)

/-- ITS FALSE NEIGHBOUR: 'it returns false'. Refute it at one input. -/
def sramCopiesWrong : ChangeSpec := { name := "sramCopies", fn := fun _ => fun
  | [d1, d2, d3, d4] => { results := [.lit (.bool false)], args := [d1, d2, d3, d4] }
  | _ => none }
def SramCopiesWrongFalsely : Prop := sramCopiesRow.holds Try.pinned (OpenSpec.ofChange sramCopiesWrong)

/- THE SECOND FORM. 'bulk': how many values and letters a reading holds, each counted each time it is reached (what is shared counts as often as it is met; a slice's spare places count too). A statement '..UptoSaid' is the law's where the arguments, and the package variables that the reading takes, are together of bulk at most 1048576: NARROWER than '..Said'. Prove '..Said' where nothing that the law and all that it calls make is longer than what came in: it says more and counts as full. Else prove '..UptoSaid'. A law counts once. -/
mutual
def uptoBulk {H : Type} : DataW H → Nat
  | .lit (.string bytes) => bytes.length + 1
  | .lit _ => 1
  | .nil => 1
  | .ptr d => uptoBulk d + 1
  | .slice elems spare => uptoBulkAll elems + uptoBulkAll spare + 1
  | .agg parts => uptoBulkAll parts + 1
  | .iface _ d => uptoBulk d + 1
  | .map entries => uptoBulkEntries entries + 1
  | .held _ => 1
def uptoBulkAll {H : Type} : List (DataW H) → Nat
  | [] => 0
  | d :: r => uptoBulk d + uptoBulkAll r
def uptoBulkEntries {H : Type} : List (Lit × DataW H) → Nat
  | [] => 0
  | x :: r => uptoBulkEntry x + uptoBulkEntries r
def uptoBulkEntry {H : Type} : Lit × DataW H → Nat
  | (.string bytes, d) => bytes.length + uptoBulk d + 1
  | (_, d) => uptoBulk d + 1
 end
def uptoSmall : (H : Type) → List (DataW H) → Bool := fun _ ds => decide (uptoBulkAll ds ≤ 1048576)
def OpenSpec.upto (s : _root_.Go.ChangeSpec) : _root_.Go.OpenSpec := { _root_.Go.OpenSpec.ofChange s with cond := some uptoSmall }

/-- 'keepsakelaw12.SramPlays', WHERE WHAT IT READS IS OF BULK AT MOST 1048576: true; the input reads as it did. -/
def sramPlaysUptoRow : OpenClaim := { program := "ytehjfcfnnpjedaa", sum := "958e9e16287e203a5f87ff7b5d94fc0a52f5fdd3f65aac857a907724d247fd1b", func := "keepsake/keepsakelaw12.SramPlays", spec := "sramPlays", apart := false, narrowed := true }
def SramPlaysUptoSaid : Prop := sramPlaysUptoRow.holds Try.pinned (OpenSpec.upto sramPlaysSpec)

/-- 'keepsakelaw12.SramNew', WHERE WHAT IT READS IS OF BULK AT MOST 1048576: true; the input reads as it did. -/
def sramNewUptoRow : OpenClaim := { program := "ytehjfcfnnpjedaa", sum := "958e9e16287e203a5f87ff7b5d94fc0a52f5fdd3f65aac857a907724d247fd1b", func := "keepsake/keepsakelaw12.SramNew", spec := "sramNew", apart := false, narrowed := true }
def SramNewUptoSaid : Prop := sramNewUptoRow.holds Try.pinned (OpenSpec.upto sramNewSpec)

/-- 'keepsakelaw12.SramLocked', WHERE WHAT IT READS IS OF BULK AT MOST 1048576: true; the input reads as it did. -/
def sramLockedUptoRow : OpenClaim := { program := "ytehjfcfnnpjedaa", sum := "958e9e16287e203a5f87ff7b5d94fc0a52f5fdd3f65aac857a907724d247fd1b", func := "keepsake/keepsakelaw12.SramLocked", spec := "sramLocked", apart := false, narrowed := true }
def SramLockedUptoSaid : Prop := sramLockedUptoRow.holds Try.pinned (OpenSpec.upto sramLockedSpec)

/-- 'keepsakelaw12.SramOpen', WHERE WHAT IT READS IS OF BULK AT MOST 1048576: true; the input reads as it did. -/
def sramOpenUptoRow : OpenClaim := { program := "ytehjfcfnnpjedaa", sum := "958e9e16287e203a5f87ff7b5d94fc0a52f5fdd3f65aac857a907724d247fd1b", func := "keepsake/keepsakelaw12.SramOpen", spec := "sramOpen", apart := false, narrowed := true }
def SramOpenUptoSaid : Prop := sramOpenUptoRow.holds Try.pinned (OpenSpec.upto sramOpenSpec)

/-- 'keepsakelaw12.SramCopies', WHERE WHAT IT READS IS OF BULK AT MOST 1048576: true; the input reads as it did. -/
def sramCopiesUptoRow : OpenClaim := { program := "ytehjfcfnnpjedaa", sum := "958e9e16287e203a5f87ff7b5d94fc0a52f5fdd3f65aac857a907724d247fd1b", func := "keepsake/keepsakelaw12.SramCopies", spec := "sramCopies", apart := false, narrowed := true }
def SramCopiesUptoSaid : Prop := sramCopiesUptoRow.holds Try.pinned (OpenSpec.upto sramCopiesSpec)

end Rows
end Go.Proofs.Ytehjfcfnnpjedaa
