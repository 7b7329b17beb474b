/-
  NARROWER THAN 'FOR EVERY INPUT', by the rows' own cells (each row's printed sentence says how): ImageFactory: laid · ImageOwn: laid · ImageNeeds: laid · ImagePacks: laid · ImageCuts: laid · ImageGlues: laid · ImageBack: laid.
  DERIVED. THE GIVEN ROWS OF THIS SEAT. 7 by the template 'for every input the law returns true; each argument reads behind the call as it read before'; 0 by the template 'total and deterministic' (their statements: YtmlldfkmmmncgaaDoorTotals.lean).
  GIVEN WITH THE SEED: the statements are not yours to turn. If you find one false, say at which input.
  Laid BY PROGRAM, IN A SANDBOX (cutbox-rows.mjs): the forced cells as the released guide's own fill.sh prints them over the translation f78a745c9a0c631f… (all of the seat's roots in one cut). By AI agents, Wed Nov 11 2026. No macro, syntax, notation, axiom, sorry.
-/
import Derived.Test.YtmlldfkmmmncgaaDoorChecked
import GoSem.Claim
import GoSem.ClaimJoined
import GoSem.ClaimMapViews
import Derived.JoinedTies
import Derived.KernelRfl
namespace Go.Proofs.YtmlldfkmmmncgaaDoor
/- THE CELL 'sum', in the pinned program and in every row, IS THE sha256 OF THE DUMP (.gsa) THAT YtmlldfkmmmncgaaDoorProg.lean LOADS. Nothing in Lean hashes anything: it is a label: what it is worth is what the hold of that sum in a sandbox is worth. -/
noncomputable def Tryd.pinned : Pinned := { name := "ytmlldfkmmmncgaadoor", sum := "f78a745c9a0c631f2472bacb48edfd24ad88ec36eac46e216c5132e974cdbc7d", checked := Tryd.checked }
namespace Rows
def none {H : Type} : Left H := { results := [], args := [] }

/- WHAT THE LISTED PACKAGE-LEVEL VARIABLES READ AS WHEN THE CALL BEGINS. Each datum BY PROGRAM (the guide's laid-datum.mjs) off the statement by which the dump's own 'gosem.cut.vars' lays the variable. In a bare row this is a premise. The card (YtmlldfkmmmncgaaDoorCards.lean) ties it to the program's text. -/
def laid_keepsake_geo_rows {H : Type} : DataW H := .agg [.agg [.lit (.int .i64 0), .lit (.int .i64 0), .lit (.int .i64 0), .lit (.int .i64 0)], .agg [.lit (.int .i64 7), .lit (.int .i64 3), .lit (.int .i64 1), .lit (.int .i64 0)], .agg [.lit (.int .i64 8), .lit (.int .i64 3), .lit (.int .i64 1), .lit (.int .i64 0)], .agg [.lit (.int .i64 9), .lit (.int .i64 4), .lit (.int .i64 1), .lit (.int .i64 1)], .agg [.lit (.int .i64 10), .lit (.int .i64 4), .lit (.int .i64 1), .lit (.int .i64 2)], .agg [.lit (.int .i64 11), .lit (.int .i64 4), .lit (.int .i64 1), .lit (.int .i64 3)], .agg [.lit (.int .i64 12), .lit (.int .i64 5), .lit (.int .i64 2), .lit (.int .i64 0)], .agg [.lit (.int .i64 13), .lit (.int .i64 5), .lit (.int .i64 2), .lit (.int .i64 0)], .agg [.lit (.int .i64 14), .lit (.int .i64 6), .lit (.int .i64 2), .lit (.int .i64 0)], .agg [.lit (.int .i64 15), .lit (.int .i64 6), .lit (.int .i64 2), .lit (.int .i64 0)], .agg [.lit (.int .i64 16), .lit (.int .i64 7), .lit (.int .i64 2), .lit (.int .i64 0)]]

/-- 'keepsakelaw05.ImageFactory': WHATEVER THE INPUT: true; the input reads as it did. -/
def imageFactorySpec : ChangeSpec := { name := "imageFactory", fn := fun _ => fun
  | [d] => { results := [.lit (.bool true)], args := [d] }
  | _ => none }
def imageFactoryRow : OpenClaim := { program := "ytmlldfkmmmncgaadoor", sum := "f78a745c9a0c631f2472bacb48edfd24ad88ec36eac46e216c5132e974cdbc7d", func := "keepsake/keepsakelaw05.ImageFactory", spec := "imageFactory", inPlace := ["internal/bytealg.MakeNoZero"], named := ["keepsake/geo.rows"], apart := false, laid := [("keepsake/geo.rows", laid_keepsake_geo_rows)] }
def ImageFactorySaid : Prop := imageFactoryRow.holds Tryd.pinned (OpenSpec.ofChange imageFactorySpec)

/-- ITS FALSE NEIGHBOUR: 'it returns false'. Refute it at one input. -/
def imageFactoryWrong : ChangeSpec := { name := "imageFactory", fn := fun _ => fun
  | [d] => { results := [.lit (.bool false)], args := [d] }
  | _ => none }
def ImageFactoryWrongFalsely : Prop := imageFactoryRow.holds Tryd.pinned (OpenSpec.ofChange imageFactoryWrong)

/-- 'keepsakelaw05.ImageOwn': WHATEVER THE INPUT: true; the input reads as it did. -/
def imageOwnSpec : ChangeSpec := { name := "imageOwn", fn := fun _ => fun
  | [d1, d2, d3] => { results := [.lit (.bool true)], args := [d1, d2, d3] }
  | _ => none }
def imageOwnRow : OpenClaim := { program := "ytmlldfkmmmncgaadoor", sum := "f78a745c9a0c631f2472bacb48edfd24ad88ec36eac46e216c5132e974cdbc7d", func := "keepsake/keepsakelaw05.ImageOwn", spec := "imageOwn", inPlace := ["internal/bytealg.MakeNoZero"], named := ["keepsake/geo.rows"], apart := false, laid := [("keepsake/geo.rows", laid_keepsake_geo_rows)] }
def ImageOwnSaid : Prop := imageOwnRow.holds Tryd.pinned (OpenSpec.ofChange imageOwnSpec)

/-- ITS FALSE NEIGHBOUR: 'it returns false'. Refute it at one input. -/
def imageOwnWrong : ChangeSpec := { name := "imageOwn", fn := fun _ => fun
  | [d1, d2, d3] => { results := [.lit (.bool false)], args := [d1, d2, d3] }
  | _ => none }
def ImageOwnWrongFalsely : Prop := imageOwnRow.holds Tryd.pinned (OpenSpec.ofChange imageOwnWrong)

/-- 'keepsakelaw05.ImageNeeds': WHATEVER THE INPUT: true; the input reads as it did. -/
def imageNeedsSpec : ChangeSpec := { name := "imageNeeds", fn := fun _ => fun
  | [d1, d2, d3] => { results := [.lit (.bool true)], args := [d1, d2, d3] }
  | _ => none }
def imageNeedsRow : OpenClaim := { program := "ytmlldfkmmmncgaadoor", sum := "f78a745c9a0c631f2472bacb48edfd24ad88ec36eac46e216c5132e974cdbc7d", func := "keepsake/keepsakelaw05.ImageNeeds", spec := "imageNeeds", inPlace := ["internal/bytealg.MakeNoZero"], named := ["keepsake/geo.rows"], apart := false, laid := [("keepsake/geo.rows", laid_keepsake_geo_rows)] }
def ImageNeedsSaid : Prop := imageNeedsRow.holds Tryd.pinned (OpenSpec.ofChange imageNeedsSpec)

/-- ITS FALSE NEIGHBOUR: 'it returns false'. Refute it at one input. -/
def imageNeedsWrong : ChangeSpec := { name := "imageNeeds", fn := fun _ => fun
  | [d1, d2, d3] => { results := [.lit (.bool false)], args := [d1, d2, d3] }
  | _ => none }
def ImageNeedsWrongFalsely : Prop := imageNeedsRow.holds Tryd.pinned (OpenSpec.ofChange imageNeedsWrong)

/-- 'keepsakelaw05.ImagePacks': WHATEVER THE INPUT: true; the input reads as it did. -/
def imagePacksSpec : ChangeSpec := { name := "imagePacks", fn := fun _ => fun
  | [d1, d2, d3, d4] => { results := [.lit (.bool true)], args := [d1, d2, d3, d4] }
  | _ => none }
def imagePacksRow : OpenClaim := { program := "ytmlldfkmmmncgaadoor", sum := "f78a745c9a0c631f2472bacb48edfd24ad88ec36eac46e216c5132e974cdbc7d", func := "keepsake/keepsakelaw05.ImagePacks", spec := "imagePacks", inPlace := ["internal/bytealg.MakeNoZero"], named := ["keepsake/geo.rows"], apart := false, laid := [("keepsake/geo.rows", laid_keepsake_geo_rows)] }
def ImagePacksSaid : Prop := imagePacksRow.holds Tryd.pinned (OpenSpec.ofChange imagePacksSpec)

/-- ITS FALSE NEIGHBOUR: 'it returns false'. Refute it at one input. -/
def imagePacksWrong : ChangeSpec := { name := "imagePacks", fn := fun _ => fun
  | [d1, d2, d3, d4] => { results := [.lit (.bool false)], args := [d1, d2, d3, d4] }
  | _ => none }
def ImagePacksWrongFalsely : Prop := imagePacksRow.holds Tryd.pinned (OpenSpec.ofChange imagePacksWrong)

/-- 'keepsakelaw05.ImageCuts': WHATEVER THE INPUT: true; the input reads as it did. -/
def imageCutsSpec : ChangeSpec := { name := "imageCuts", fn := fun _ => fun
  | [d1, d2, d3, d4] => { results := [.lit (.bool true)], args := [d1, d2, d3, d4] }
  | _ => none }
def imageCutsRow : OpenClaim := { program := "ytmlldfkmmmncgaadoor", sum := "f78a745c9a0c631f2472bacb48edfd24ad88ec36eac46e216c5132e974cdbc7d", func := "keepsake/keepsakelaw05.ImageCuts", spec := "imageCuts", inPlace := ["internal/bytealg.MakeNoZero"], named := ["keepsake/geo.rows"], apart := false, laid := [("keepsake/geo.rows", laid_keepsake_geo_rows)] }
def ImageCutsSaid : Prop := imageCutsRow.holds Tryd.pinned (OpenSpec.ofChange imageCutsSpec)

/-- ITS FALSE NEIGHBOUR: 'it returns false'. Refute it at one input. -/
def imageCutsWrong : ChangeSpec := { name := "imageCuts", fn := fun _ => fun
  | [d1, d2, d3, d4] => { results := [.lit (.bool false)], args := [d1, d2, d3, d4] }
  | _ => none }
def ImageCutsWrongFalsely : Prop := imageCutsRow.holds Tryd.pinned (OpenSpec.ofChange imageCutsWrong)

/-- 'keepsakelaw05.ImageGlues': WHATEVER THE INPUT: true; the input reads as it did. -/
def imageGluesSpec : ChangeSpec := { name := "imageGlues", fn := fun _ => fun
  | [d1, d2] => { results := [.lit (.bool true)], args := [d1, d2] }
  | _ => none }
def imageGluesRow : OpenClaim := { program := "ytmlldfkmmmncgaadoor", sum := "f78a745c9a0c631f2472bacb48edfd24ad88ec36eac46e216c5132e974cdbc7d", func := "keepsake/keepsakelaw05.ImageGlues", spec := "imageGlues", inPlace := ["internal/bytealg.MakeNoZero"], named := ["keepsake/geo.rows"], apart := false, laid := [("keepsake/geo.rows", laid_keepsake_geo_rows)] }
def ImageGluesSaid : Prop := imageGluesRow.holds Tryd.pinned (OpenSpec.ofChange imageGluesSpec)

/-- ITS FALSE NEIGHBOUR: 'it returns false'. Refute it at one input. -/
def imageGluesWrong : ChangeSpec := { name := "imageGlues", fn := fun _ => fun
  | [d1, d2] => { results := [.lit (.bool false)], args := [d1, d2] }
  | _ => none }
def ImageGluesWrongFalsely : Prop := imageGluesRow.holds Tryd.pinned (OpenSpec.ofChange imageGluesWrong)

/-- 'keepsakelaw05.ImageBack': WHATEVER THE INPUT: true; the input reads as it did. -/
def imageBackSpec : ChangeSpec := { name := "imageBack", fn := fun _ => fun
  | [d1, d2] => { results := [.lit (.bool true)], args := [d1, d2] }
  | _ => none }
def imageBackRow : OpenClaim := { program := "ytmlldfkmmmncgaadoor", sum := "f78a745c9a0c631f2472bacb48edfd24ad88ec36eac46e216c5132e974cdbc7d", func := "keepsake/keepsakelaw05.ImageBack", spec := "imageBack", inPlace := ["internal/bytealg.MakeNoZero"], named := ["keepsake/geo.rows"], apart := false, laid := [("keepsake/geo.rows", laid_keepsake_geo_rows)] }
def ImageBackSaid : Prop := imageBackRow.holds Tryd.pinned (OpenSpec.ofChange imageBackSpec)

/-- ITS FALSE NEIGHBOUR: 'it returns false'. Refute it at one input. -/
def imageBackWrong : ChangeSpec := { name := "imageBack", fn := fun _ => fun
  | [d1, d2] => { results := [.lit (.bool false)], args := [d1, d2] }
  | _ => none }
def ImageBackWrongFalsely : Prop := imageBackRow.holds Tryd.pinned (OpenSpec.ofChange imageBackWrong)

/- THE SECOND FORM. 'bulk': how many values and letters a reading holds, each counted each time it is reached (what is shared counts as often as it is met; a slice's spare places count too). A statement '..UptoSaid' is the law's where the arguments, and the package variables that the reading takes, are together of bulk at most 1048576: NARROWER than '..Said'. Prove '..Said' where nothing that the law and all that it calls make is longer than what came in: it says more and counts as full. Else prove '..UptoSaid'. A law counts once. -/
mutual
def uptoBulk {H : Type} : DataW H → Nat
  | .lit (.string bytes) => bytes.length + 1
  | .lit _ => 1
  | .nil => 1
  | .ptr d => uptoBulk d + 1
  | .slice elems spare => uptoBulkAll elems + uptoBulkAll spare + 1
  | .agg parts => uptoBulkAll parts + 1
  | .iface _ d => uptoBulk d + 1
  | .map entries => uptoBulkEntries entries + 1
  | .held _ => 1
def uptoBulkAll {H : Type} : List (DataW H) → Nat
  | [] => 0
  | d :: r => uptoBulk d + uptoBulkAll r
def uptoBulkEntries {H : Type} : List (Lit × DataW H) → Nat
  | [] => 0
  | x :: r => uptoBulkEntry x + uptoBulkEntries r
def uptoBulkEntry {H : Type} : Lit × DataW H → Nat
  | (.string bytes, d) => bytes.length + uptoBulk d + 1
  | (_, d) => uptoBulk d + 1
 end
def uptoSmall : (H : Type) → List (DataW H) → Bool := fun _ ds => decide (uptoBulkAll ds ≤ 1048576)
def OpenSpec.upto (s : _root_.Go.ChangeSpec) : _root_.Go.OpenSpec := { _root_.Go.OpenSpec.ofChange s with cond := some uptoSmall }

/-- 'keepsakelaw05.ImageFactory', WHERE WHAT IT READS IS OF BULK AT MOST 1048576: true; the input reads as it did. -/
def imageFactoryUptoRow : OpenClaim := { program := "ytmlldfkmmmncgaadoor", sum := "f78a745c9a0c631f2472bacb48edfd24ad88ec36eac46e216c5132e974cdbc7d", func := "keepsake/keepsakelaw05.ImageFactory", spec := "imageFactory", inPlace := ["internal/bytealg.MakeNoZero"], named := ["keepsake/geo.rows"], apart := false, laid := [("keepsake/geo.rows", laid_keepsake_geo_rows)], narrowed := true }
def ImageFactoryUptoSaid : Prop := imageFactoryUptoRow.holds Tryd.pinned (OpenSpec.upto imageFactorySpec)

/-- 'keepsakelaw05.ImageOwn', WHERE WHAT IT READS IS OF BULK AT MOST 1048576: true; the input reads as it did. -/
def imageOwnUptoRow : OpenClaim := { program := "ytmlldfkmmmncgaadoor", sum := "f78a745c9a0c631f2472bacb48edfd24ad88ec36eac46e216c5132e974cdbc7d", func := "keepsake/keepsakelaw05.ImageOwn", spec := "imageOwn", inPlace := ["internal/bytealg.MakeNoZero"], named := ["keepsake/geo.rows"], apart := false, laid := [("keepsake/geo.rows", laid_keepsake_geo_rows)], narrowed := true }
def ImageOwnUptoSaid : Prop := imageOwnUptoRow.holds Tryd.pinned (OpenSpec.upto imageOwnSpec)

/-- 'keepsakelaw05.ImageNeeds', WHERE WHAT IT READS IS OF BULK AT MOST 1048576: true; the input reads as it did. -/
def imageNeedsUptoRow : OpenClaim := { program := "ytmlldfkmmmncgaadoor", sum := "f78a745c9a0c631f2472bacb48edfd24ad88ec36eac46e216c5132e974cdbc7d", func := "keepsake/keepsakelaw05.ImageNeeds", spec := "imageNeeds", inPlace := ["internal/bytealg.MakeNoZero"], named := ["keepsake/geo.rows"], apart := false, laid := [("keepsake/geo.rows", laid_keepsake_geo_rows)], narrowed := true }
def ImageNeedsUptoSaid : Prop := imageNeedsUptoRow.holds Tryd.pinned (OpenSpec.upto imageNeedsSpec)

/-- 'keepsakelaw05.ImagePacks', WHERE WHAT IT READS IS OF BULK AT MOST 1048576: true; the input reads as it did. -/
def imagePacksUptoRow : OpenClaim := { program := "ytmlldfkmmmncgaadoor", sum := "f78a745c9a0c631f2472bacb48edfd24ad88ec36eac46e216c5132e974cdbc7d", func := "keepsake/keepsakelaw05.ImagePacks", spec := "imagePacks", inPlace := ["internal/bytealg.MakeNoZero"], named := ["keepsake/geo.rows"], apart := false, laid := [("keepsake/geo.rows", laid_keepsake_geo_rows)], narrowed := true }
def ImagePacksUptoSaid : Prop := imagePacksUptoRow.holds Tryd.pinned (OpenSpec.upto imagePacksSpec)

/-- 'keepsakelaw05.ImageCuts', WHERE WHAT IT READS IS OF BULK AT MOST 1048576: true; the input reads as it did. -/
def imageCutsUptoRow : OpenClaim := { program := "ytmlldfkmmmncgaadoor", sum := "f78a745c9a0c631f2472bacb48edfd24ad88ec36eac46e216c5132e974cdbc7d", func := "keepsake/keepsakelaw05.ImageCuts", spec := "imageCuts", inPlace := ["internal/bytealg.MakeNoZero"], named := ["keepsake/geo.rows"], apart := false, laid := [("keepsake/geo.rows", laid_keepsake_geo_rows)], narrowed := true }
def ImageCutsUptoSaid : Prop := imageCutsUptoRow.holds Tryd.pinned (OpenSpec.upto imageCutsSpec)

/-- 'keepsakelaw05.ImageGlues', WHERE WHAT IT READS IS OF BULK AT MOST 1048576: true; the input reads as it did. -/
def imageGluesUptoRow : OpenClaim := { program := "ytmlldfkmmmncgaadoor", sum := "f78a745c9a0c631f2472bacb48edfd24ad88ec36eac46e216c5132e974cdbc7d", func := "keepsake/keepsakelaw05.ImageGlues", spec := "imageGlues", inPlace := ["internal/bytealg.MakeNoZero"], named := ["keepsake/geo.rows"], apart := false, laid := [("keepsake/geo.rows", laid_keepsake_geo_rows)], narrowed := true }
def ImageGluesUptoSaid : Prop := imageGluesUptoRow.holds Tryd.pinned (OpenSpec.upto imageGluesSpec)

/-- 'keepsakelaw05.ImageBack', WHERE WHAT IT READS IS OF BULK AT MOST 1048576: true; the input reads as it did. -/
def imageBackUptoRow : OpenClaim := { program := "ytmlldfkmmmncgaadoor", sum := "f78a745c9a0c631f2472bacb48edfd24ad88ec36eac46e216c5132e974cdbc7d", func := "keepsake/keepsakelaw05.ImageBack", spec := "imageBack", inPlace := ["internal/bytealg.MakeNoZero"], named := ["keepsake/geo.rows"], apart := false, laid := [("keepsake/geo.rows", laid_keepsake_geo_rows)], narrowed := true }
def ImageBackUptoSaid : Prop := imageBackUptoRow.holds Tryd.pinned (OpenSpec.upto imageBackSpec)

end Rows
end Go.Proofs.YtmlldfkmmmncgaaDoor
