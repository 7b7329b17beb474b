/-
  No cell of these rows narrows 'for every input' (looked for: loops, veiled, ifaces, maps, wideKeys, modest, calm, conditions, laid).
  DERIVED. THE GIVEN ROWS OF THIS SEAT. 5 by the template 'for every input the law returns true; each argument reads behind the call as it read before'; 0 by the template 'total and deterministic' (their statements: YtoiiphlhdnlniaaTotals.lean).
  GIVEN WITH THE SEED: the statements are not yours to turn. If you find one false, say at which input.
  Laid BY PROGRAM, IN A SANDBOX (cutbox-rows.mjs): the forced cells as the released guide's own fill.sh prints them over the translation 142a7a924baf3a2e… (all of the seat's roots in one cut). By AI agents, Wed Nov 11 2026. No macro, syntax, notation, axiom, sorry.
-/
import Derived.Test.YtoiiphlhdnlniaaChecked
import GoSem.Claim
import GoSem.ClaimJoined
import GoSem.ClaimMapViews
import Derived.JoinedTies
import Derived.KernelRfl
namespace Go.Proofs.Ytoiiphlhdnlniaa
/- THE CELL 'sum', in the pinned program and in every row, IS THE sha256 OF THE DUMP (.gsa) THAT YtoiiphlhdnlniaaProg.lean LOADS. Nothing in Lean hashes anything: it is a label: what it is worth is what the hold of that sum in a sandbox is worth. -/
noncomputable def Try.pinned : Pinned := { name := "ytoiiphlhdnlniaa", sum := "142a7a924baf3a2e25b7e43f2d6f2135a41842cafa11db0dc3c6005cb5e939b9", checked := Try.checked }
namespace Rows
def none {H : Type} : Left H := { results := [], args := [] }

/-- 'keepsakelaw21.CartParses': WHATEVER THE INPUT: true; the input reads as it did. -/
def cartParsesSpec : ChangeSpec := { name := "cartParses", fn := fun _ => fun
  | [d] => { results := [.lit (.bool true)], args := [d] }
  | _ => none }
def cartParsesRow : OpenClaim := { program := "ytoiiphlhdnlniaa", sum := "142a7a924baf3a2e25b7e43f2d6f2135a41842cafa11db0dc3c6005cb5e939b9", func := "keepsake/keepsakelaw21.CartParses", spec := "cartParses", apart := false }
def CartParsesSaid : Prop := cartParsesRow.holds Try.pinned (OpenSpec.ofChange cartParsesSpec)

/-- ITS FALSE NEIGHBOUR: 'it returns false'. Refute it at one input. -/
def cartParsesWrong : ChangeSpec := { name := "cartParses", fn := fun _ => fun
  | [d] => { results := [.lit (.bool false)], args := [d] }
  | _ => none }
def CartParsesWrongFalsely : Prop := cartParsesRow.holds Try.pinned (OpenSpec.ofChange cartParsesWrong)

/-- 'keepsakelaw21.CartMakes': WHATEVER THE INPUT: true; the input reads as it did. -/
def cartMakesSpec : ChangeSpec := { name := "cartMakes", fn := fun _ => fun
  | [d] => { results := [.lit (.bool true)], args := [d] }
  | _ => none }
def cartMakesRow : OpenClaim := { program := "ytoiiphlhdnlniaa", sum := "142a7a924baf3a2e25b7e43f2d6f2135a41842cafa11db0dc3c6005cb5e939b9", func := "keepsake/keepsakelaw21.CartMakes", spec := "cartMakes", apart := false }
def CartMakesSaid : Prop := cartMakesRow.holds Try.pinned (OpenSpec.ofChange cartMakesSpec)

/-- ITS FALSE NEIGHBOUR: 'it returns false'. Refute it at one input. -/
def cartMakesWrong : ChangeSpec := { name := "cartMakes", fn := fun _ => fun
  | [d] => { results := [.lit (.bool false)], args := [d] }
  | _ => none }
def CartMakesWrongFalsely : Prop := cartMakesRow.holds Try.pinned (OpenSpec.ofChange cartMakesWrong)

/-- 'keepsakelaw21.CartBack': WHATEVER THE INPUT: true; the input reads as it did. -/
def cartBackSpec : ChangeSpec := { name := "cartBack", fn := fun _ => fun
  | [d1, d2, d3, d4, d5, d6] => { results := [.lit (.bool true)], args := [d1, d2, d3, d4, d5, d6] }
  | _ => none }
def cartBackRow : OpenClaim := { program := "ytoiiphlhdnlniaa", sum := "142a7a924baf3a2e25b7e43f2d6f2135a41842cafa11db0dc3c6005cb5e939b9", func := "keepsake/keepsakelaw21.CartBack", spec := "cartBack", apart := false }
def CartBackSaid : Prop := cartBackRow.holds Try.pinned (OpenSpec.ofChange cartBackSpec)

/-- ITS FALSE NEIGHBOUR: 'it returns false'. Refute it at one input. -/
def cartBackWrong : ChangeSpec := { name := "cartBack", fn := fun _ => fun
  | [d1, d2, d3, d4, d5, d6] => { results := [.lit (.bool false)], args := [d1, d2, d3, d4, d5, d6] }
  | _ => none }
def CartBackWrongFalsely : Prop := cartBackRow.holds Try.pinned (OpenSpec.ofChange cartBackWrong)

/-- 'keepsakelaw21.CartBursts': WHATEVER THE INPUT: true; the input reads as it did. -/
def cartBurstsSpec : ChangeSpec := { name := "cartBursts", fn := fun _ => fun
  | [d1, d2, d3] => { results := [.lit (.bool true)], args := [d1, d2, d3] }
  | _ => none }
def cartBurstsRow : OpenClaim := { program := "ytoiiphlhdnlniaa", sum := "142a7a924baf3a2e25b7e43f2d6f2135a41842cafa11db0dc3c6005cb5e939b9", func := "keepsake/keepsakelaw21.CartBursts", spec := "cartBursts", apart := false }
def CartBurstsSaid : Prop := cartBurstsRow.holds Try.pinned (OpenSpec.ofChange cartBurstsSpec)

/-- ITS FALSE NEIGHBOUR: 'it returns false'. Refute it at one input. -/
def cartBurstsWrong : ChangeSpec := { name := "cartBursts", fn := fun _ => fun
  | [d1, d2, d3] => { results := [.lit (.bool false)], args := [d1, d2, d3] }
  | _ => none }
def CartBurstsWrongFalsely : Prop := cartBurstsRow.holds Try.pinned (OpenSpec.ofChange cartBurstsWrong)

/-- 'keepsakelaw21.CartOwn': WHATEVER THE INPUT: true; the input reads as it did. -/
def cartOwnSpec : ChangeSpec := { name := "cartOwn", fn := fun _ => fun
  | [d1, d2] => { results := [.lit (.bool true)], args := [d1, d2] }
  | _ => none }
def cartOwnRow : OpenClaim := { program := "ytoiiphlhdnlniaa", sum := "142a7a924baf3a2e25b7e43f2d6f2135a41842cafa11db0dc3c6005cb5e939b9", func := "keepsake/keepsakelaw21.CartOwn", spec := "cartOwn", apart := false }
def CartOwnSaid : Prop := cartOwnRow.holds Try.pinned (OpenSpec.ofChange cartOwnSpec)

/-- ITS FALSE NEIGHBOUR: 'it returns false'. Refute it at one input. -/
def cartOwnWrong : ChangeSpec := { name := "cartOwn", fn := fun _ => fun
  | [d1, d2] => { results := [.lit (.bool false)], args := [d1, d2] }
  | _ => none }
def CartOwnWrongFalsely : Prop := cartOwnRow.holds Try.pinned (OpenSpec.ofChange cartOwnWrong)

/- THE SECOND FORM. 'bulk': how many values and letters a reading holds, each counted each time it is reached (what is shared counts as often as it is met; a slice's spare places count too). A statement '..UptoSaid' is the law's where the arguments, and the package variables that the reading takes, are together of bulk at most 1048576: NARROWER than '..Said'. Prove '..Said' where nothing that the law and all that it calls make is longer than what came in: it says more and counts as full. Else prove '..UptoSaid'. A law counts once. -/
mutual
def uptoBulk {H : Type} : DataW H → Nat
  | .lit (.string bytes) => bytes.length + 1
  | .lit _ => 1
  | .nil => 1
  | .ptr d => uptoBulk d + 1
  | .slice elems spare => uptoBulkAll elems + uptoBulkAll spare + 1
  | .agg parts => uptoBulkAll parts + 1
  | .iface _ d => uptoBulk d + 1
  | .map entries => uptoBulkEntries entries + 1
  | .held _ => 1
def uptoBulkAll {H : Type} : List (DataW H) → Nat
  | [] => 0
  | d :: r => uptoBulk d + uptoBulkAll r
def uptoBulkEntries {H : Type} : List (Lit × DataW H) → Nat
  | [] => 0
  | x :: r => uptoBulkEntry x + uptoBulkEntries r
def uptoBulkEntry {H : Type} : Lit × DataW H → Nat
  | (.string bytes, d) => bytes.length + uptoBulk d + 1
  | (_, d) => uptoBulk d + 1
 end
def uptoSmall : (H : Type) → List (DataW H) → Bool := fun _ ds => decide (uptoBulkAll ds ≤ 1048576)
def OpenSpec.upto (s : _root_.Go.ChangeSpec) : _root_.Go.OpenSpec := { _root_.Go.OpenSpec.ofChange s with cond := some uptoSmall }

/-- 'keepsakelaw21.CartParses', WHERE WHAT IT READS IS OF BULK AT MOST 1048576: true; the input reads as it did. -/
def cartParsesUptoRow : OpenClaim := { program := "ytoiiphlhdnlniaa", sum := "142a7a924baf3a2e25b7e43f2d6f2135a41842cafa11db0dc3c6005cb5e939b9", func := "keepsake/keepsakelaw21.CartParses", spec := "cartParses", apart := false, narrowed := true }
def CartParsesUptoSaid : Prop := cartParsesUptoRow.holds Try.pinned (OpenSpec.upto cartParsesSpec)

/-- 'keepsakelaw21.CartMakes', WHERE WHAT IT READS IS OF BULK AT MOST 1048576: true; the input reads as it did. -/
def cartMakesUptoRow : OpenClaim := { program := "ytoiiphlhdnlniaa", sum := "142a7a924baf3a2e25b7e43f2d6f2135a41842cafa11db0dc3c6005cb5e939b9", func := "keepsake/keepsakelaw21.CartMakes", spec := "cartMakes", apart := false, narrowed := true }
def CartMakesUptoSaid : Prop := cartMakesUptoRow.holds Try.pinned (OpenSpec.upto cartMakesSpec)

/-- 'keepsakelaw21.CartBack', WHERE WHAT IT READS IS OF BULK AT MOST 1048576: true; the input reads as it did. -/
def cartBackUptoRow : OpenClaim := { program := "ytoiiphlhdnlniaa", sum := "142a7a924baf3a2e25b7e43f2d6f2135a41842cafa11db0dc3c6005cb5e939b9", func := "keepsake/keepsakelaw21.CartBack", spec := "cartBack", apart := false, narrowed := true }
def CartBackUptoSaid : Prop := cartBackUptoRow.holds Try.pinned (OpenSpec.upto cartBackSpec)

/-- 'keepsakelaw21.CartBursts', WHERE WHAT IT READS IS OF BULK AT MOST 1048576: true; the input reads as it did. -/
def cartBurstsUptoRow : OpenClaim := { program := "ytoiiphlhdnlniaa", sum := "142a7a924baf3a2e25b7e43f2d6f2135a41842cafa11db0dc3c6005cb5e939b9", func := "keepsake/keepsakelaw21.CartBursts", spec := "cartBursts", apart := false, narrowed := true }
def CartBurstsUptoSaid : Prop := cartBurstsUptoRow.holds Try.pinned (OpenSpec.upto cartBurstsSpec)

/-- 'keepsakelaw21.CartOwn', WHERE WHAT IT READS IS OF BULK AT MOST 1048576: true; the input reads as it did. -/
def cartOwnUptoRow : OpenClaim := { program := "ytoiiphlhdnlniaa", sum := "142a7a924baf3a2e25b7e43f2d6f2135a41842cafa11db0dc3c6005cb5e939b9", func := "keepsake/keepsakelaw21.CartOwn", spec := "cartOwn", apart := false, narrowed := true }
def CartOwnUptoSaid : Prop := cartOwnUptoRow.holds Try.pinned (OpenSpec.upto cartOwnSpec)

end Rows
end Go.Proofs.Ytoiiphlhdnlniaa
