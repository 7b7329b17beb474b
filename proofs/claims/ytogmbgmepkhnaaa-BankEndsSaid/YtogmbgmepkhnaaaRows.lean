/-
  No cell of these rows narrows 'for every input' (looked for: loops, veiled, ifaces, maps, wideKeys, modest, calm, conditions, laid).
  DERIVED. THE GIVEN ROWS OF THIS SEAT. 5 by the template 'for every input the law returns true; each argument reads behind the call as it read before'; 0 by the template 'total and deterministic' (their statements: YtogmbgmepkhnaaaTotals.lean).
  GIVEN WITH THE SEED: the statements are not yours to turn. If you find one false, say at which input.
  Laid BY PROGRAM, IN A SANDBOX (cutbox-rows.mjs): the forced cells as the released guide's own fill.sh prints them over the translation 668920b34b515671… (all of the seat's roots in one cut). By AI agents, Wed Nov 11 2026. No macro, syntax, notation, axiom, sorry.
-/
import Derived.Test.YtogmbgmepkhnaaaChecked
import GoSem.Claim
import GoSem.ClaimJoined
import GoSem.ClaimMapViews
import Derived.JoinedTies
import Derived.KernelRfl
namespace Go.Proofs.Ytogmbgmepkhnaaa
/- THE CELL 'sum', in the pinned program and in every row, IS THE sha256 OF THE DUMP (.gsa) THAT YtogmbgmepkhnaaaProg.lean LOADS. Nothing in Lean hashes anything: it is a label: what it is worth is what the hold of that sum in a sandbox is worth. -/
noncomputable def Try.pinned : Pinned := { name := "ytogmbgmepkhnaaa", sum := "668920b34b51567131e19667de84b2851f2c62c09f1b2ddd36954447a39ec258", checked := Try.checked }
namespace Rows
def none {H : Type} : Left H := { results := [], args := [] }

/-- 'keepsakelaw20.BankTells': WHATEVER THE INPUT: true; the input reads as it did. -/
def bankTellsSpec : ChangeSpec := { name := "bankTells", fn := fun _ => fun
  | [d1, d2, d3, d4, d5] => { results := [.lit (.bool true)], args := [d1, d2, d3, d4, d5] }
  | _ => none }
def bankTellsRow : OpenClaim := { program := "ytogmbgmepkhnaaa", sum := "668920b34b51567131e19667de84b2851f2c62c09f1b2ddd36954447a39ec258", func := "keepsake/keepsakelaw20.BankTells", spec := "bankTells", apart := false }
def BankTellsSaid : Prop := bankTellsRow.holds Try.pinned (OpenSpec.ofChange bankTellsSpec)

/-- ITS FALSE NEIGHBOUR: 'it returns false'. Refute it at one input. -/
def bankTellsWrong : ChangeSpec := { name := "bankTells", fn := fun _ => fun
  | [d1, d2, d3, d4, d5] => { results := [.lit (.bool false)], args := [d1, d2, d3, d4, d5] }
  | _ => none }
def BankTellsWrongFalsely : Prop := bankTellsRow.holds Try.pinned (OpenSpec.ofChange bankTellsWrong)

/-- 'keepsakelaw20.BankBounds': WHATEVER THE INPUT: true; the input reads as it did. -/
def bankBoundsSpec : ChangeSpec := { name := "bankBounds", fn := fun _ => fun
  | [d1, d2, d3, d4, d5, d6] => { results := [.lit (.bool true)], args := [d1, d2, d3, d4, d5, d6] }
  | _ => none }
def bankBoundsRow : OpenClaim := { program := "ytogmbgmepkhnaaa", sum := "668920b34b51567131e19667de84b2851f2c62c09f1b2ddd36954447a39ec258", func := "keepsake/keepsakelaw20.BankBounds", spec := "bankBounds", apart := false }
def BankBoundsSaid : Prop := bankBoundsRow.holds Try.pinned (OpenSpec.ofChange bankBoundsSpec)

/-- ITS FALSE NEIGHBOUR: 'it returns false'. Refute it at one input. -/
def bankBoundsWrong : ChangeSpec := { name := "bankBounds", fn := fun _ => fun
  | [d1, d2, d3, d4, d5, d6] => { results := [.lit (.bool false)], args := [d1, d2, d3, d4, d5, d6] }
  | _ => none }
def BankBoundsWrongFalsely : Prop := bankBoundsRow.holds Try.pinned (OpenSpec.ofChange bankBoundsWrong)

/-- 'keepsakelaw20.BankSees': WHATEVER THE INPUT: true; the input reads as it did. -/
def bankSeesSpec : ChangeSpec := { name := "bankSees", fn := fun _ => fun
  | [d1, d2, d3, d4, d5] => { results := [.lit (.bool true)], args := [d1, d2, d3, d4, d5] }
  | _ => none }
def bankSeesRow : OpenClaim := { program := "ytogmbgmepkhnaaa", sum := "668920b34b51567131e19667de84b2851f2c62c09f1b2ddd36954447a39ec258", func := "keepsake/keepsakelaw20.BankSees", spec := "bankSees", apart := false }
def BankSeesSaid : Prop := bankSeesRow.holds Try.pinned (OpenSpec.ofChange bankSeesSpec)

/-- ITS FALSE NEIGHBOUR: 'it returns false'. Refute it at one input. -/
def bankSeesWrong : ChangeSpec := { name := "bankSees", fn := fun _ => fun
  | [d1, d2, d3, d4, d5] => { results := [.lit (.bool false)], args := [d1, d2, d3, d4, d5] }
  | _ => none }
def BankSeesWrongFalsely : Prop := bankSeesRow.holds Try.pinned (OpenSpec.ofChange bankSeesWrong)

/-- 'keepsakelaw20.BankEnds': WHATEVER THE INPUT: true; the input reads as it did. -/
def bankEndsSpec : ChangeSpec := { name := "bankEnds", fn := fun _ => fun
  | [d1, d2, d3, d4, d5, d6, d7, d8] => { results := [.lit (.bool true)], args := [d1, d2, d3, d4, d5, d6, d7, d8] }
  | _ => none }
def bankEndsRow : OpenClaim := { program := "ytogmbgmepkhnaaa", sum := "668920b34b51567131e19667de84b2851f2c62c09f1b2ddd36954447a39ec258", func := "keepsake/keepsakelaw20.BankEnds", spec := "bankEnds", apart := false }
def BankEndsSaid : Prop := bankEndsRow.holds Try.pinned (OpenSpec.ofChange bankEndsSpec)

/-- ITS FALSE NEIGHBOUR: 'it returns false'. Refute it at one input. -/
def bankEndsWrong : ChangeSpec := { name := "bankEnds", fn := fun _ => fun
  | [d1, d2, d3, d4, d5, d6, d7, d8] => { results := [.lit (.bool false)], args := [d1, d2, d3, d4, d5, d6, d7, d8] }
  | _ => none }
def BankEndsWrongFalsely : Prop := bankEndsRow.holds Try.pinned (OpenSpec.ofChange bankEndsWrong)

/-- 'keepsakelaw20.BankRounds': WHATEVER THE INPUT: true; the input reads as it did. -/
def bankRoundsSpec : ChangeSpec := { name := "bankRounds", fn := fun _ => fun
  | [d1, d2, d3, d4, d5, d6] => { results := [.lit (.bool true)], args := [d1, d2, d3, d4, d5, d6] }
  | _ => none }
def bankRoundsRow : OpenClaim := { program := "ytogmbgmepkhnaaa", sum := "668920b34b51567131e19667de84b2851f2c62c09f1b2ddd36954447a39ec258", func := "keepsake/keepsakelaw20.BankRounds", spec := "bankRounds", apart := false }
def BankRoundsSaid : Prop := bankRoundsRow.holds Try.pinned (OpenSpec.ofChange bankRoundsSpec)

/-- ITS FALSE NEIGHBOUR: 'it returns false'. Refute it at one input. -/
def bankRoundsWrong : ChangeSpec := { name := "bankRounds", fn := fun _ => fun
  | [d1, d2, d3, d4, d5, d6] => { results := [.lit (.bool false)], args := [d1, d2, d3, d4, d5, d6] }
  | _ => none }
def BankRoundsWrongFalsely : Prop := bankRoundsRow.holds Try.pinned (OpenSpec.ofChange bankRoundsWrong)

/- THE SECOND FORM. 'bulk': how many values and letters a reading holds, each counted each time it is reached (what is shared counts as often as it is met; a slice's spare places count too). A statement '..UptoSaid' is the law's where the arguments, and the package variables that the reading takes, are together of bulk at most 1048576: NARROWER than '..Said'. Prove '..Said' where nothing that the law and all that it calls make is longer than what came in: it says more and counts as full. Else prove '..UptoSaid'. A law counts once. -/
mutual
def uptoBulk {H : Type} : DataW H → Nat
  | .lit (.string bytes) => bytes.length + 1
  | .lit _ => 1
  | .nil => 1
  | .ptr d => uptoBulk d + 1
  | .slice elems spare => uptoBulkAll elems + uptoBulkAll spare + 1
  | .agg parts => uptoBulkAll parts + 1
  | .iface _ d => uptoBulk d + 1
  | .map entries => uptoBulkEntries entries + 1
  | .held _ => 1
def uptoBulkAll {H : Type} : List (DataW H) → Nat
  | [] => 0
  | d :: r => uptoBulk d + uptoBulkAll r
def uptoBulkEntries {H : Type} : List (Lit × DataW H) → Nat
  | [] => 0
  | x :: r => uptoBulkEntry x + uptoBulkEntries r
def uptoBulkEntry {H : Type} : Lit × DataW H → Nat
  | (.string bytes, d) => bytes.length + uptoBulk d + 1
  | (_, d) => uptoBulk d + 1
 end
def uptoSmall : (H : Type) → List (DataW H) → Bool := fun _ ds => decide (uptoBulkAll ds ≤ 1048576)
def OpenSpec.upto (s : _root_.Go.ChangeSpec) : _root_.Go.OpenSpec := { _root_.Go.OpenSpec.ofChange s with cond := some uptoSmall }

/-- 'keepsakelaw20.BankTells', WHERE WHAT IT READS IS OF BULK AT MOST 1048576: true; the input reads as it did. -/
def bankTellsUptoRow : OpenClaim := { program := "ytogmbgmepkhnaaa", sum := "668920b34b51567131e19667de84b2851f2c62c09f1b2ddd36954447a39ec258", func := "keepsake/keepsakelaw20.BankTells", spec := "bankTells", apart := false, narrowed := true }
def BankTellsUptoSaid : Prop := bankTellsUptoRow.holds Try.pinned (OpenSpec.upto bankTellsSpec)

/-- 'keepsakelaw20.BankBounds', WHERE WHAT IT READS IS OF BULK AT MOST 1048576: true; the input reads as it did. -/
def bankBoundsUptoRow : OpenClaim := { program := "ytogmbgmepkhnaaa", sum := "668920b34b51567131e19667de84b2851f2c62c09f1b2ddd36954447a39ec258", func := "keepsake/keepsakelaw20.BankBounds", spec := "bankBounds", apart := false, narrowed := true }
def BankBoundsUptoSaid : Prop := bankBoundsUptoRow.holds Try.pinned (OpenSpec.upto bankBoundsSpec)

/-- 'keepsakelaw20.BankSees', WHERE WHAT IT READS IS OF BULK AT MOST 1048576: true; the input reads as it did. -/
def bankSeesUptoRow : OpenClaim := { program := "ytogmbgmepkhnaaa", sum := "668920b34b51567131e19667de84b2851f2c62c09f1b2ddd36954447a39ec258", func := "keepsake/keepsakelaw20.BankSees", spec := "bankSees", apart := false, narrowed := true }
def BankSeesUptoSaid : Prop := bankSeesUptoRow.holds Try.pinned (OpenSpec.upto bankSeesSpec)

/-- 'keepsakelaw20.BankEnds', WHERE WHAT IT READS IS OF BULK AT MOST 1048576: true; the input reads as it did. -/
def bankEndsUptoRow : OpenClaim := { program := "ytogmbgmepkhnaaa", sum := "668920b34b51567131e19667de84b2851f2c62c09f1b2ddd36954447a39ec258", func := "keepsake/keepsakelaw20.BankEnds", spec := "bankEnds", apart := false, narrowed := true }
def BankEndsUptoSaid : Prop := bankEndsUptoRow.holds Try.pinned (OpenSpec.upto bankEndsSpec)

/-- 'keepsakelaw20.BankRounds', WHERE WHAT IT READS IS OF BULK AT MOST 1048576: true; the input reads as it did. -/
def bankRoundsUptoRow : OpenClaim := { program := "ytogmbgmepkhnaaa", sum := "668920b34b51567131e19667de84b2851f2c62c09f1b2ddd36954447a39ec258", func := "keepsake/keepsakelaw20.BankRounds", spec := "bankRounds", apart := false, narrowed := true }
def BankRoundsUptoSaid : Prop := bankRoundsUptoRow.holds Try.pinned (OpenSpec.upto bankRoundsSpec)

end Rows
end Go.Proofs.Ytogmbgmepkhnaaa
