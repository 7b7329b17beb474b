/-
  No cell of these rows narrows 'for every input' (looked for: loops, veiled, ifaces, maps, wideKeys, modest, calm, conditions, laid).
  DERIVED. THE GIVEN ROWS OF THIS SEAT. 8 by the template 'for every input the law returns true; each argument reads behind the call as it read before'; 0 by the template 'total and deterministic' (their statements: YtpkgpcolngoicaaTotals.lean).
  GIVEN WITH THE SEED: the statements are not yours to turn. If you find one false, say at which input.
  Laid BY PROGRAM, IN A SANDBOX (cutbox-rows.mjs): the forced cells as the released guide's own fill.sh prints them over the translation 9415ad889d440b5a… (all of the seat's roots in one cut). By AI agents, Wed Nov 11 2026. No macro, syntax, notation, axiom, sorry.
-/
import Derived.Test.YtpkgpcolngoicaaChecked
import GoSem.Claim
import GoSem.ClaimJoined
import GoSem.ClaimMapViews
import Derived.JoinedTies
import Derived.KernelRfl
namespace Go.Proofs.Ytpkgpcolngoicaa
/- THE CELL 'sum', in the pinned program and in every row, IS THE sha256 OF THE DUMP (.gsa) THAT YtpkgpcolngoicaaProg.lean LOADS. Nothing in Lean hashes anything: it is a label: what it is worth is what the hold of that sum in a sandbox is worth. -/
noncomputable def Try.pinned : Pinned := { name := "ytpkgpcolngoicaa", sum := "9415ad889d440b5adf886421bce34c40914e1b742d1e9040378063aef58ddf65", checked := Try.checked }
namespace Rows
def none {H : Type} : Left H := { results := [], args := [] }

/-- 'keepsakelaw11.FlashPrograms': WHATEVER THE INPUT: true; the input reads as it did. -/
def flashProgramsSpec : ChangeSpec := { name := "flashPrograms", fn := fun _ => fun
  | [d1, d2, d3, d4] => { results := [.lit (.bool true)], args := [d1, d2, d3, d4] }
  | _ => none }
def flashProgramsRow : OpenClaim := { program := "ytpkgpcolngoicaa", sum := "9415ad889d440b5adf886421bce34c40914e1b742d1e9040378063aef58ddf65", func := "keepsake/keepsakelaw11.FlashPrograms", spec := "flashPrograms", unfollowed := true, recurses := true, apart := false }
def FlashProgramsSaid : Prop := flashProgramsRow.holds Try.pinned (OpenSpec.ofChange flashProgramsSpec)

/-- ITS FALSE NEIGHBOUR: 'it returns false'. Refute it at one input. -/
def flashProgramsWrong : ChangeSpec := { name := "flashPrograms", fn := fun _ => fun
  | [d1, d2, d3, d4] => { results := [.lit (.bool false)], args := [d1, d2, d3, d4] }
  | _ => none }
def FlashProgramsWrongFalsely : Prop := flashProgramsRow.holds Try.pinned (OpenSpec.ofChange flashProgramsWrong)

/-- 'keepsakelaw11.FlashErases': WHATEVER THE INPUT: true; the input reads as it did. -/
def flashErasesSpec : ChangeSpec := { name := "flashErases", fn := fun _ => fun
  | [d1, d2, d3] => { results := [.lit (.bool true)], args := [d1, d2, d3] }
  | _ => none }
def flashErasesRow : OpenClaim := { program := "ytpkgpcolngoicaa", sum := "9415ad889d440b5adf886421bce34c40914e1b742d1e9040378063aef58ddf65", func := "keepsake/keepsakelaw11.FlashErases", spec := "flashErases", unfollowed := true, recurses := true, apart := false }
def FlashErasesSaid : Prop := flashErasesRow.holds Try.pinned (OpenSpec.ofChange flashErasesSpec)

/-- ITS FALSE NEIGHBOUR: 'it returns false'. Refute it at one input. -/
def flashErasesWrong : ChangeSpec := { name := "flashErases", fn := fun _ => fun
  | [d1, d2, d3] => { results := [.lit (.bool false)], args := [d1, d2, d3] }
  | _ => none }
def FlashErasesWrongFalsely : Prop := flashErasesRow.holds Try.pinned (OpenSpec.ofChange flashErasesWrong)

/-- 'keepsakelaw11.FlashKeys': WHATEVER THE INPUT: true; the input reads as it did. -/
def flashKeysSpec : ChangeSpec := { name := "flashKeys", fn := fun _ => fun
  | [d1, d2, d3] => { results := [.lit (.bool true)], args := [d1, d2, d3] }
  | _ => none }
def flashKeysRow : OpenClaim := { program := "ytpkgpcolngoicaa", sum := "9415ad889d440b5adf886421bce34c40914e1b742d1e9040378063aef58ddf65", func := "keepsake/keepsakelaw11.FlashKeys", spec := "flashKeys", unfollowed := true, recurses := true, apart := false }
def FlashKeysSaid : Prop := flashKeysRow.holds Try.pinned (OpenSpec.ofChange flashKeysSpec)

/-- ITS FALSE NEIGHBOUR: 'it returns false'. Refute it at one input. -/
def flashKeysWrong : ChangeSpec := { name := "flashKeys", fn := fun _ => fun
  | [d1, d2, d3] => { results := [.lit (.bool false)], args := [d1, d2, d3] }
  | _ => none }
def FlashKeysWrongFalsely : Prop := flashKeysRow.holds Try.pinned (OpenSpec.ofChange flashKeysWrong)

/-- 'keepsakelaw11.FlashBusy': WHATEVER THE INPUT: true; the input reads as it did. -/
def flashBusySpec : ChangeSpec := { name := "flashBusy", fn := fun _ => fun
  | [d1, d2, d3, d4, d5, d6] => { results := [.lit (.bool true)], args := [d1, d2, d3, d4, d5, d6] }
  | _ => none }
def flashBusyRow : OpenClaim := { program := "ytpkgpcolngoicaa", sum := "9415ad889d440b5adf886421bce34c40914e1b742d1e9040378063aef58ddf65", func := "keepsake/keepsakelaw11.FlashBusy", spec := "flashBusy", unfollowed := true, recurses := true, apart := false }
def FlashBusySaid : Prop := flashBusyRow.holds Try.pinned (OpenSpec.ofChange flashBusySpec)

/-- ITS FALSE NEIGHBOUR: 'it returns false'. Refute it at one input. -/
def flashBusyWrong : ChangeSpec := { name := "flashBusy", fn := fun _ => fun
  | [d1, d2, d3, d4, d5, d6] => { results := [.lit (.bool false)], args := [d1, d2, d3, d4, d5, d6] }
  | _ => none }
def FlashBusyWrongFalsely : Prop := flashBusyRow.holds Try.pinned (OpenSpec.ofChange flashBusyWrong)

/-- 'keepsakelaw11.FlashNames': WHATEVER THE INPUT: true; the input reads as it did. -/
def flashNamesSpec : ChangeSpec := { name := "flashNames", fn := fun _ => fun
  | [d1, d2, d3] => { results := [.lit (.bool true)], args := [d1, d2, d3] }
  | _ => none }
def flashNamesRow : OpenClaim := { program := "ytpkgpcolngoicaa", sum := "9415ad889d440b5adf886421bce34c40914e1b742d1e9040378063aef58ddf65", func := "keepsake/keepsakelaw11.FlashNames", spec := "flashNames", unfollowed := true, recurses := true, apart := false }
def FlashNamesSaid : Prop := flashNamesRow.holds Try.pinned (OpenSpec.ofChange flashNamesSpec)

/-- ITS FALSE NEIGHBOUR: 'it returns false'. Refute it at one input. -/
def flashNamesWrong : ChangeSpec := { name := "flashNames", fn := fun _ => fun
  | [d1, d2, d3] => { results := [.lit (.bool false)], args := [d1, d2, d3] }
  | _ => none }
def FlashNamesWrongFalsely : Prop := flashNamesRow.holds Try.pinned (OpenSpec.ofChange flashNamesWrong)

/-- 'keepsakelaw11.FlashNew': WHATEVER THE INPUT: true; the input reads as it did. -/
def flashNewSpec : ChangeSpec := { name := "flashNew", fn := fun _ => fun
  | [d1, d2] => { results := [.lit (.bool true)], args := [d1, d2] }
  | _ => none }
def flashNewRow : OpenClaim := { program := "ytpkgpcolngoicaa", sum := "9415ad889d440b5adf886421bce34c40914e1b742d1e9040378063aef58ddf65", func := "keepsake/keepsakelaw11.FlashNew", spec := "flashNew", unfollowed := true, recurses := true, apart := false }
def FlashNewSaid : Prop := flashNewRow.holds Try.pinned (OpenSpec.ofChange flashNewSpec)

/-- ITS FALSE NEIGHBOUR: 'it returns false'. Refute it at one input. -/
def flashNewWrong : ChangeSpec := { name := "flashNew", fn := fun _ => fun
  | [d1, d2] => { results := [.lit (.bool false)], args := [d1, d2] }
  | _ => none }
def FlashNewWrongFalsely : Prop := flashNewRow.holds Try.pinned (OpenSpec.ofChange flashNewWrong)

/-- 'keepsakelaw11.FlashPlays': WHATEVER THE INPUT: true; the input reads as it did. -/
def flashPlaysSpec : ChangeSpec := { name := "flashPlays", fn := fun _ => fun
  | [d1, d2, d3, d4] => { results := [.lit (.bool true)], args := [d1, d2, d3, d4] }
  | _ => none }
def flashPlaysRow : OpenClaim := { program := "ytpkgpcolngoicaa", sum := "9415ad889d440b5adf886421bce34c40914e1b742d1e9040378063aef58ddf65", func := "keepsake/keepsakelaw11.FlashPlays", spec := "flashPlays", unfollowed := true, recurses := true, apart := false }
def FlashPlaysSaid : Prop := flashPlaysRow.holds Try.pinned (OpenSpec.ofChange flashPlaysSpec)

/-- ITS FALSE NEIGHBOUR: 'it returns false'. Refute it at one input. -/
def flashPlaysWrong : ChangeSpec := { name := "flashPlays", fn := fun _ => fun
  | [d1, d2, d3, d4] => { results := [.lit (.bool false)], args := [d1, d2, d3, d4] }
  | _ => none }
def FlashPlaysWrongFalsely : Prop := flashPlaysRow.holds Try.pinned (OpenSpec.ofChange flashPlaysWrong)

/-- 'keepsakelaw11.FlashCut': WHATEVER THE INPUT: true; the input reads as it did. -/
def flashCutSpec : ChangeSpec := { name := "flashCut", fn := fun _ => fun
  | [d1, d2, d3, d4] => { results := [.lit (.bool true)], args := [d1, d2, d3, d4] }
  | _ => none }
def flashCutRow : OpenClaim := { program := "ytpkgpcolngoicaa", sum := "9415ad889d440b5adf886421bce34c40914e1b742d1e9040378063aef58ddf65", func := "keepsake/keepsakelaw11.FlashCut", spec := "flashCut", unfollowed := true, recurses := true, apart := false }
def FlashCutSaid : Prop := flashCutRow.holds Try.pinned (OpenSpec.ofChange flashCutSpec)

/-- ITS FALSE NEIGHBOUR: 'it returns false'. Refute it at one input. -/
def flashCutWrong : ChangeSpec := { name := "flashCut", fn := fun _ => fun
  | [d1, d2, d3, d4] => { results := [.lit (.bool false)], args := [d1, d2, d3, d4] }
  | _ => none }
def FlashCutWrongFalsely : Prop := flashCutRow.holds Try.pinned (OpenSpec.ofChange flashCutWrong)

/- THE SECOND FORM. 'bulk': how many values and letters a reading holds, each counted each time it is reached (what is shared counts as often as it is met; a slice's spare places count too). A statement '..UptoSaid' is the law's where the arguments, and the package variables that the reading takes, are together of bulk at most 1048576: NARROWER than '..Said'. Prove '..Said' where nothing that the law and all that it calls make is longer than what came in: it says more and counts as full. Else prove '..UptoSaid'. A law counts once. -/
mutual
def uptoBulk {H : Type} : DataW H → Nat
  | .lit (.string bytes) => bytes.length + 1
  | .lit _ => 1
  | .nil => 1
  | .ptr d => uptoBulk d + 1
  | .slice elems spare => uptoBulkAll elems + uptoBulkAll spare + 1
  | .agg parts => uptoBulkAll parts + 1
  | .iface _ d => uptoBulk d + 1
  | .map entries => uptoBulkEntries entries + 1
  | .held _ => 1
def uptoBulkAll {H : Type} : List (DataW H) → Nat
  | [] => 0
  | d :: r => uptoBulk d + uptoBulkAll r
def uptoBulkEntries {H : Type} : List (Lit × DataW H) → Nat
  | [] => 0
  | x :: r => uptoBulkEntry x + uptoBulkEntries r
def uptoBulkEntry {H : Type} : Lit × DataW H → Nat
  | (.string bytes, d) => bytes.length + uptoBulk d + 1
  | (_, d) => uptoBulk d + 1
 end
def uptoSmall : (H : Type) → List (DataW H) → Bool := fun _ ds => decide (uptoBulkAll ds ≤ 1048576)
def OpenSpec.upto (s : _root_.Go.ChangeSpec) : _root_.Go.OpenSpec := { _root_.Go.OpenSpec.ofChange s with cond := some uptoSmall }

/-- 'keepsakelaw11.FlashPrograms', WHERE WHAT IT READS IS OF BULK AT MOST 1048576: true; the input reads as it did. -/
def flashProgramsUptoRow : OpenClaim := { program := "ytpkgpcolngoicaa", sum := "9415ad889d440b5adf886421bce34c40914e1b742d1e9040378063aef58ddf65", func := "keepsake/keepsakelaw11.FlashPrograms", spec := "flashPrograms", unfollowed := true, recurses := true, apart := false, narrowed := true }
def FlashProgramsUptoSaid : Prop := flashProgramsUptoRow.holds Try.pinned (OpenSpec.upto flashProgramsSpec)

/-- 'keepsakelaw11.FlashErases', WHERE WHAT IT READS IS OF BULK AT MOST 1048576: true; the input reads as it did. -/
def flashErasesUptoRow : OpenClaim := { program := "ytpkgpcolngoicaa", sum := "9415ad889d440b5adf886421bce34c40914e1b742d1e9040378063aef58ddf65", func := "keepsake/keepsakelaw11.FlashErases", spec := "flashErases", unfollowed := true, recurses := true, apart := false, narrowed := true }
def FlashErasesUptoSaid : Prop := flashErasesUptoRow.holds Try.pinned (OpenSpec.upto flashErasesSpec)

/-- 'keepsakelaw11.FlashKeys', WHERE WHAT IT READS IS OF BULK AT MOST 1048576: true; the input reads as it did. -/
def flashKeysUptoRow : OpenClaim := { program := "ytpkgpcolngoicaa", sum := "9415ad889d440b5adf886421bce34c40914e1b742d1e9040378063aef58ddf65", func := "keepsake/keepsakelaw11.FlashKeys", spec := "flashKeys", unfollowed := true, recurses := true, apart := false, narrowed := true }
def FlashKeysUptoSaid : Prop := flashKeysUptoRow.holds Try.pinned (OpenSpec.upto flashKeysSpec)

/-- 'keepsakelaw11.FlashBusy', WHERE WHAT IT READS IS OF BULK AT MOST 1048576: true; the input reads as it did. -/
def flashBusyUptoRow : OpenClaim := { program := "ytpkgpcolngoicaa", sum := "9415ad889d440b5adf886421bce34c40914e1b742d1e9040378063aef58ddf65", func := "keepsake/keepsakelaw11.FlashBusy", spec := "flashBusy", unfollowed := true, recurses := true, apart := false, narrowed := true }
def FlashBusyUptoSaid : Prop := flashBusyUptoRow.holds Try.pinned (OpenSpec.upto flashBusySpec)

/-- 'keepsakelaw11.FlashNames', WHERE WHAT IT READS IS OF BULK AT MOST 1048576: true; the input reads as it did. -/
def flashNamesUptoRow : OpenClaim := { program := "ytpkgpcolngoicaa", sum := "9415ad889d440b5adf886421bce34c40914e1b742d1e9040378063aef58ddf65", func := "keepsake/keepsakelaw11.FlashNames", spec := "flashNames", unfollowed := true, recurses := true, apart := false, narrowed := true }
def FlashNamesUptoSaid : Prop := flashNamesUptoRow.holds Try.pinned (OpenSpec.upto flashNamesSpec)

/-- 'keepsakelaw11.FlashNew', WHERE WHAT IT READS IS OF BULK AT MOST 1048576: true; the input reads as it did. -/
def flashNewUptoRow : OpenClaim := { program := "ytpkgpcolngoicaa", sum := "9415ad889d440b5adf886421bce34c40914e1b742d1e9040378063aef58ddf65", func := "keepsake/keepsakelaw11.FlashNew", spec := "flashNew", unfollowed := true, recurses := true, apart := false, narrowed := true }
def FlashNewUptoSaid : Prop := flashNewUptoRow.holds Try.pinned (OpenSpec.upto flashNewSpec)

/-- 'keepsakelaw11.FlashPlays', WHERE WHAT IT READS IS OF BULK AT MOST 1048576: true; the input reads as it did. -/
def flashPlaysUptoRow : OpenClaim := { program := "ytpkgpcolngoicaa", sum := "9415ad889d440b5adf886421bce34c40914e1b742d1e9040378063aef58ddf65", func := "keepsake/keepsakelaw11.FlashPlays", spec := "flashPlays", unfollowed := true, recurses := true, apart := false, narrowed := true }
def FlashPlaysUptoSaid : Prop := flashPlaysUptoRow.holds Try.pinned (OpenSpec.upto flashPlaysSpec)

/-- 'keepsakelaw11.FlashCut', WHERE WHAT IT READS IS OF BULK AT MOST 1048576: true; the input reads as it did. -/
def flashCutUptoRow : OpenClaim := { program := "ytpkgpcolngoicaa", sum := "9415ad889d440b5adf886421bce34c40914e1b742d1e9040378063aef58ddf65", func := "keepsake/keepsakelaw11.FlashCut", spec := "flashCut", unfollowed := true, recurses := true, apart := false, narrowed := true }
def FlashCutUptoSaid : Prop := flashCutUptoRow.holds Try.pinned (OpenSpec.upto flashCutSpec)

end Rows
end Go.Proofs.Ytpkgpcolngoicaa
