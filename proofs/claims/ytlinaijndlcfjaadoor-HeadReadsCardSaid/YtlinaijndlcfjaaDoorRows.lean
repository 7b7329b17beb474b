/-
  NARROWER THAN 'FOR EVERY INPUT', by the rows' own cells (each row's printed sentence says how): HeadTells: laid · HeadReads: laid · HeadBack: laid · HeadBursts: laid · HeadAgain: laid · HeadNumbers: laid.
  DERIVED. THE GIVEN ROWS OF THIS SEAT. 6 by the template 'for every input the law returns true; each argument reads behind the call as it read before'; 0 by the template 'total and deterministic' (their statements: YtlinaijndlcfjaaDoorTotals.lean).
  GIVEN WITH THE SEED: the statements are not yours to turn. If you find one false, say at which input.
  Laid BY PROGRAM, IN A SANDBOX (cutbox-rows.mjs): the forced cells as the released guide's own fill.sh prints them over the translation e72984087ecc0bca… (all of the seat's roots in one cut). By AI agents, Wed Nov 11 2026. No macro, syntax, notation, axiom, sorry.
-/
import Derived.Test.YtlinaijndlcfjaaDoorChecked
import GoSem.Claim
import GoSem.ClaimJoined
import GoSem.ClaimMapViews
import Derived.JoinedTies
import Derived.KernelRfl
namespace Go.Proofs.YtlinaijndlcfjaaDoor
/- THE CELL 'sum', in the pinned program and in every row, IS THE sha256 OF THE DUMP (.gsa) THAT YtlinaijndlcfjaaDoorProg.lean LOADS. Nothing in Lean hashes anything: it is a label: what it is worth is what the hold of that sum in a sandbox is worth. -/
noncomputable def Tryd.pinned : Pinned := { name := "ytlinaijndlcfjaadoor", sum := "e72984087ecc0bca83b0a0b623cbc48cb836e2482d47f75f4724468bd17858a1", checked := Tryd.checked }
namespace Rows
def none {H : Type} : Left H := { results := [], args := [] }

/- WHAT THE LISTED PACKAGE-LEVEL VARIABLES READ AS WHEN THE CALL BEGINS. Each datum BY PROGRAM (the guide's laid-datum.mjs) off the statement by which the dump's own 'gosem.cut.vars' lays the variable. In a bare row this is a premise. The card (YtlinaijndlcfjaaDoorCards.lean) ties it to the program's text. -/
def laid_keepsake_geo_rows {H : Type} : DataW H := .agg [.agg [.lit (.int .i64 0), .lit (.int .i64 0), .lit (.int .i64 0), .lit (.int .i64 0)], .agg [.lit (.int .i64 7), .lit (.int .i64 3), .lit (.int .i64 1), .lit (.int .i64 0)], .agg [.lit (.int .i64 8), .lit (.int .i64 3), .lit (.int .i64 1), .lit (.int .i64 0)], .agg [.lit (.int .i64 9), .lit (.int .i64 4), .lit (.int .i64 1), .lit (.int .i64 1)], .agg [.lit (.int .i64 10), .lit (.int .i64 4), .lit (.int .i64 1), .lit (.int .i64 2)], .agg [.lit (.int .i64 11), .lit (.int .i64 4), .lit (.int .i64 1), .lit (.int .i64 3)], .agg [.lit (.int .i64 12), .lit (.int .i64 5), .lit (.int .i64 2), .lit (.int .i64 0)], .agg [.lit (.int .i64 13), .lit (.int .i64 5), .lit (.int .i64 2), .lit (.int .i64 0)], .agg [.lit (.int .i64 14), .lit (.int .i64 6), .lit (.int .i64 2), .lit (.int .i64 0)], .agg [.lit (.int .i64 15), .lit (.int .i64 6), .lit (.int .i64 2), .lit (.int .i64 0)], .agg [.lit (.int .i64 16), .lit (.int .i64 7), .lit (.int .i64 2), .lit (.int .i64 0)]]

/-- 'keepsakelaw04.HeadTells': WHATEVER THE INPUT: true; the input reads as it did. -/
def headTellsSpec : ChangeSpec := { name := "headTells", fn := fun _ => fun
  | [d] => { results := [.lit (.bool true)], args := [d] }
  | _ => none }
def headTellsRow : OpenClaim := { program := "ytlinaijndlcfjaadoor", sum := "e72984087ecc0bca83b0a0b623cbc48cb836e2482d47f75f4724468bd17858a1", func := "keepsake/keepsakelaw04.HeadTells", spec := "headTells", named := ["keepsake/geo.rows"], apart := false, laid := [("keepsake/geo.rows", laid_keepsake_geo_rows)] }
def HeadTellsSaid : Prop := headTellsRow.holds Tryd.pinned (OpenSpec.ofChange headTellsSpec)

/-- ITS FALSE NEIGHBOUR: 'it returns false'. Refute it at one input. -/
def headTellsWrong : ChangeSpec := { name := "headTells", fn := fun _ => fun
  | [d] => { results := [.lit (.bool false)], args := [d] }
  | _ => none }
def HeadTellsWrongFalsely : Prop := headTellsRow.holds Tryd.pinned (OpenSpec.ofChange headTellsWrong)

/-- 'keepsakelaw04.HeadReads': WHATEVER THE INPUT: true; the input reads as it did. -/
def headReadsSpec : ChangeSpec := { name := "headReads", fn := fun _ => fun
  | [d] => { results := [.lit (.bool true)], args := [d] }
  | _ => none }
def headReadsRow : OpenClaim := { program := "ytlinaijndlcfjaadoor", sum := "e72984087ecc0bca83b0a0b623cbc48cb836e2482d47f75f4724468bd17858a1", func := "keepsake/keepsakelaw04.HeadReads", spec := "headReads", named := ["keepsake/geo.rows"], apart := false, laid := [("keepsake/geo.rows", laid_keepsake_geo_rows)] }
def HeadReadsSaid : Prop := headReadsRow.holds Tryd.pinned (OpenSpec.ofChange headReadsSpec)

/-- ITS FALSE NEIGHBOUR: 'it returns false'. Refute it at one input. -/
def headReadsWrong : ChangeSpec := { name := "headReads", fn := fun _ => fun
  | [d] => { results := [.lit (.bool false)], args := [d] }
  | _ => none }
def HeadReadsWrongFalsely : Prop := headReadsRow.holds Tryd.pinned (OpenSpec.ofChange headReadsWrong)

/-- 'keepsakelaw04.HeadBack': WHATEVER THE INPUT: true; the input reads as it did. -/
def headBackSpec : ChangeSpec := { name := "headBack", fn := fun _ => fun
  | [d1, d2, d3, d4, d5, d6] => { results := [.lit (.bool true)], args := [d1, d2, d3, d4, d5, d6] }
  | _ => none }
def headBackRow : OpenClaim := { program := "ytlinaijndlcfjaadoor", sum := "e72984087ecc0bca83b0a0b623cbc48cb836e2482d47f75f4724468bd17858a1", func := "keepsake/keepsakelaw04.HeadBack", spec := "headBack", named := ["keepsake/geo.rows"], apart := false, laid := [("keepsake/geo.rows", laid_keepsake_geo_rows)] }
def HeadBackSaid : Prop := headBackRow.holds Tryd.pinned (OpenSpec.ofChange headBackSpec)

/-- ITS FALSE NEIGHBOUR: 'it returns false'. Refute it at one input. -/
def headBackWrong : ChangeSpec := { name := "headBack", fn := fun _ => fun
  | [d1, d2, d3, d4, d5, d6] => { results := [.lit (.bool false)], args := [d1, d2, d3, d4, d5, d6] }
  | _ => none }
def HeadBackWrongFalsely : Prop := headBackRow.holds Tryd.pinned (OpenSpec.ofChange headBackWrong)

/-- 'keepsakelaw04.HeadBursts': WHATEVER THE INPUT: true; the input reads as it did. -/
def headBurstsSpec : ChangeSpec := { name := "headBursts", fn := fun _ => fun
  | [d1, d2, d3, d4, d5, d6, d7] => { results := [.lit (.bool true)], args := [d1, d2, d3, d4, d5, d6, d7] }
  | _ => none }
def headBurstsRow : OpenClaim := { program := "ytlinaijndlcfjaadoor", sum := "e72984087ecc0bca83b0a0b623cbc48cb836e2482d47f75f4724468bd17858a1", func := "keepsake/keepsakelaw04.HeadBursts", spec := "headBursts", named := ["keepsake/geo.rows"], apart := false, laid := [("keepsake/geo.rows", laid_keepsake_geo_rows)] }
def HeadBurstsSaid : Prop := headBurstsRow.holds Tryd.pinned (OpenSpec.ofChange headBurstsSpec)

/-- ITS FALSE NEIGHBOUR: 'it returns false'. Refute it at one input. -/
def headBurstsWrong : ChangeSpec := { name := "headBursts", fn := fun _ => fun
  | [d1, d2, d3, d4, d5, d6, d7] => { results := [.lit (.bool false)], args := [d1, d2, d3, d4, d5, d6, d7] }
  | _ => none }
def HeadBurstsWrongFalsely : Prop := headBurstsRow.holds Tryd.pinned (OpenSpec.ofChange headBurstsWrong)

/-- 'keepsakelaw04.HeadAgain': WHATEVER THE INPUT: true; the input reads as it did. -/
def headAgainSpec : ChangeSpec := { name := "headAgain", fn := fun _ => fun
  | [d1, d2] => { results := [.lit (.bool true)], args := [d1, d2] }
  | _ => none }
def headAgainRow : OpenClaim := { program := "ytlinaijndlcfjaadoor", sum := "e72984087ecc0bca83b0a0b623cbc48cb836e2482d47f75f4724468bd17858a1", func := "keepsake/keepsakelaw04.HeadAgain", spec := "headAgain", named := ["keepsake/geo.rows"], apart := false, laid := [("keepsake/geo.rows", laid_keepsake_geo_rows)] }
def HeadAgainSaid : Prop := headAgainRow.holds Tryd.pinned (OpenSpec.ofChange headAgainSpec)

/-- ITS FALSE NEIGHBOUR: 'it returns false'. Refute it at one input. -/
def headAgainWrong : ChangeSpec := { name := "headAgain", fn := fun _ => fun
  | [d1, d2] => { results := [.lit (.bool false)], args := [d1, d2] }
  | _ => none }
def HeadAgainWrongFalsely : Prop := headAgainRow.holds Tryd.pinned (OpenSpec.ofChange headAgainWrong)

/-- 'keepsakelaw04.HeadNumbers': WHATEVER THE INPUT: true; the input reads as it did. -/
def headNumbersSpec : ChangeSpec := { name := "headNumbers", fn := fun _ => fun
  | [d1, d2] => { results := [.lit (.bool true)], args := [d1, d2] }
  | _ => none }
def headNumbersRow : OpenClaim := { program := "ytlinaijndlcfjaadoor", sum := "e72984087ecc0bca83b0a0b623cbc48cb836e2482d47f75f4724468bd17858a1", func := "keepsake/keepsakelaw04.HeadNumbers", spec := "headNumbers", named := ["keepsake/geo.rows"], apart := false, laid := [("keepsake/geo.rows", laid_keepsake_geo_rows)] }
def HeadNumbersSaid : Prop := headNumbersRow.holds Tryd.pinned (OpenSpec.ofChange headNumbersSpec)

/-- ITS FALSE NEIGHBOUR: 'it returns false'. Refute it at one input. -/
def headNumbersWrong : ChangeSpec := { name := "headNumbers", fn := fun _ => fun
  | [d1, d2] => { results := [.lit (.bool false)], args := [d1, d2] }
  | _ => none }
def HeadNumbersWrongFalsely : Prop := headNumbersRow.holds Tryd.pinned (OpenSpec.ofChange headNumbersWrong)

/- THE SECOND FORM. 'bulk': how many values and letters a reading holds, each counted each time it is reached (what is shared counts as often as it is met; a slice's spare places count too). A statement '..UptoSaid' is the law's where the arguments, and the package variables that the reading takes, are together of bulk at most 1048576: NARROWER than '..Said'. Prove '..Said' where nothing that the law and all that it calls make is longer than what came in: it says more and counts as full. Else prove '..UptoSaid'. A law counts once. -/
mutual
def uptoBulk {H : Type} : DataW H → Nat
  | .lit (.string bytes) => bytes.length + 1
  | .lit _ => 1
  | .nil => 1
  | .ptr d => uptoBulk d + 1
  | .slice elems spare => uptoBulkAll elems + uptoBulkAll spare + 1
  | .agg parts => uptoBulkAll parts + 1
  | .iface _ d => uptoBulk d + 1
  | .map entries => uptoBulkEntries entries + 1
  | .held _ => 1
def uptoBulkAll {H : Type} : List (DataW H) → Nat
  | [] => 0
  | d :: r => uptoBulk d + uptoBulkAll r
def uptoBulkEntries {H : Type} : List (Lit × DataW H) → Nat
  | [] => 0
  | x :: r => uptoBulkEntry x + uptoBulkEntries r
def uptoBulkEntry {H : Type} : Lit × DataW H → Nat
  | (.string bytes, d) => bytes.length + uptoBulk d + 1
  | (_, d) => uptoBulk d + 1
 end
def uptoSmall : (H : Type) → List (DataW H) → Bool := fun _ ds => decide (uptoBulkAll ds ≤ 1048576)
def OpenSpec.upto (s : _root_.Go.ChangeSpec) : _root_.Go.OpenSpec := { _root_.Go.OpenSpec.ofChange s with cond := some uptoSmall }

/-- 'keepsakelaw04.HeadTells', WHERE WHAT IT READS IS OF BULK AT MOST 1048576: true; the input reads as it did. -/
def headTellsUptoRow : OpenClaim := { program := "ytlinaijndlcfjaadoor", sum := "e72984087ecc0bca83b0a0b623cbc48cb836e2482d47f75f4724468bd17858a1", func := "keepsake/keepsakelaw04.HeadTells", spec := "headTells", named := ["keepsake/geo.rows"], apart := false, laid := [("keepsake/geo.rows", laid_keepsake_geo_rows)], narrowed := true }
def HeadTellsUptoSaid : Prop := headTellsUptoRow.holds Tryd.pinned (OpenSpec.upto headTellsSpec)

/-- 'keepsakelaw04.HeadReads', WHERE WHAT IT READS IS OF BULK AT MOST 1048576: true; the input reads as it did. -/
def headReadsUptoRow : OpenClaim := { program := "ytlinaijndlcfjaadoor", sum := "e72984087ecc0bca83b0a0b623cbc48cb836e2482d47f75f4724468bd17858a1", func := "keepsake/keepsakelaw04.HeadReads", spec := "headReads", named := ["keepsake/geo.rows"], apart := false, laid := [("keepsake/geo.rows", laid_keepsake_geo_rows)], narrowed := true }
def HeadReadsUptoSaid : Prop := headReadsUptoRow.holds Tryd.pinned (OpenSpec.upto headReadsSpec)

/-- 'keepsakelaw04.HeadBack', WHERE WHAT IT READS IS OF BULK AT MOST 1048576: true; the input reads as it did. -/
def headBackUptoRow : OpenClaim := { program := "ytlinaijndlcfjaadoor", sum := "e72984087ecc0bca83b0a0b623cbc48cb836e2482d47f75f4724468bd17858a1", func := "keepsake/keepsakelaw04.HeadBack", spec := "headBack", named := ["keepsake/geo.rows"], apart := false, laid := [("keepsake/geo.rows", laid_keepsake_geo_rows)], narrowed := true }
def HeadBackUptoSaid : Prop := headBackUptoRow.holds Tryd.pinned (OpenSpec.upto headBackSpec)

/-- 'keepsakelaw04.HeadBursts', WHERE WHAT IT READS IS OF BULK AT MOST 1048576: true; the input reads as it did. -/
def headBurstsUptoRow : OpenClaim := { program := "ytlinaijndlcfjaadoor", sum := "e72984087ecc0bca83b0a0b623cbc48cb836e2482d47f75f4724468bd17858a1", func := "keepsake/keepsakelaw04.HeadBursts", spec := "headBursts", named := ["keepsake/geo.rows"], apart := false, laid := [("keepsake/geo.rows", laid_keepsake_geo_rows)], narrowed := true }
def HeadBurstsUptoSaid : Prop := headBurstsUptoRow.holds Tryd.pinned (OpenSpec.upto headBurstsSpec)

/-- 'keepsakelaw04.HeadAgain', WHERE WHAT IT READS IS OF BULK AT MOST 1048576: true; the input reads as it did. -/
def headAgainUptoRow : OpenClaim := { program := "ytlinaijndlcfjaadoor", sum := "e72984087ecc0bca83b0a0b623cbc48cb836e2482d47f75f4724468bd17858a1", func := "keepsake/keepsakelaw04.HeadAgain", spec := "headAgain", named := ["keepsake/geo.rows"], apart := false, laid := [("keepsake/geo.rows", laid_keepsake_geo_rows)], narrowed := true }
def HeadAgainUptoSaid : Prop := headAgainUptoRow.holds Tryd.pinned (OpenSpec.upto headAgainSpec)

/-- 'keepsakelaw04.HeadNumbers', WHERE WHAT IT READS IS OF BULK AT MOST 1048576: true; the input reads as it did. -/
def headNumbersUptoRow : OpenClaim := { program := "ytlinaijndlcfjaadoor", sum := "e72984087ecc0bca83b0a0b623cbc48cb836e2482d47f75f4724468bd17858a1", func := "keepsake/keepsakelaw04.HeadNumbers", spec := "headNumbers", named := ["keepsake/geo.rows"], apart := false, laid := [("keepsake/geo.rows", laid_keepsake_geo_rows)], narrowed := true }
def HeadNumbersUptoSaid : Prop := headNumbersUptoRow.holds Tryd.pinned (OpenSpec.upto headNumbersSpec)

end Rows
end Go.Proofs.YtlinaijndlcfjaaDoor
