/-
  NARROWER THAN 'FOR EVERY INPUT', by the rows' own cells (each row's printed sentence says how): GeoTells: laid · GeoDoubles: laid · GeoAddress: laid · GeoTotals: laid · GeoParts: laid.
  DERIVED. THE GIVEN ROWS OF THIS SEAT. 5 by the template 'for every input the law returns true; each argument reads behind the call as it read before'; 0 by the template 'total and deterministic' (their statements: YtnmacehnnmcalaaDoorTotals.lean).
  GIVEN WITH THE SEED: the statements are not yours to turn. If you find one false, say at which input.
  Laid BY PROGRAM, IN A SANDBOX (cutbox-rows.mjs): the forced cells as the released guide's own fill.sh prints them over the translation 9ff6b65a470b6788… (all of the seat's roots in one cut). By AI agents, Wed Nov 11 2026. No macro, syntax, notation, axiom, sorry.
-/
import Derived.Test.YtnmacehnnmcalaaDoorChecked
import GoSem.Claim
import GoSem.ClaimJoined
import GoSem.ClaimMapViews
import Derived.JoinedTies
import Derived.KernelRfl
namespace Go.Proofs.YtnmacehnnmcalaaDoor
/- THE CELL 'sum', in the pinned program and in every row, IS THE sha256 OF THE DUMP (.gsa) THAT YtnmacehnnmcalaaDoorProg.lean LOADS. Nothing in Lean hashes anything: it is a label: what it is worth is what the hold of that sum in a sandbox is worth. -/
noncomputable def Tryd.pinned : Pinned := { name := "ytnmacehnnmcalaadoor", sum := "9ff6b65a470b678833e78282374a77de923617d10064111becd95d790a1b198d", checked := Tryd.checked }
namespace Rows
def none {H : Type} : Left H := { results := [], args := [] }

/- WHAT THE LISTED PACKAGE-LEVEL VARIABLES READ AS WHEN THE CALL BEGINS. Each datum BY PROGRAM (the guide's laid-datum.mjs) off the statement by which the dump's own 'gosem.cut.vars' lays the variable. In a bare row this is a premise. The card (YtnmacehnnmcalaaDoorCards.lean) ties it to the program's text. -/
def laid_keepsake_geo_rows {H : Type} : DataW H := .agg [.agg [.lit (.int .i64 0), .lit (.int .i64 0), .lit (.int .i64 0), .lit (.int .i64 0)], .agg [.lit (.int .i64 7), .lit (.int .i64 3), .lit (.int .i64 1), .lit (.int .i64 0)], .agg [.lit (.int .i64 8), .lit (.int .i64 3), .lit (.int .i64 1), .lit (.int .i64 0)], .agg [.lit (.int .i64 9), .lit (.int .i64 4), .lit (.int .i64 1), .lit (.int .i64 1)], .agg [.lit (.int .i64 10), .lit (.int .i64 4), .lit (.int .i64 1), .lit (.int .i64 2)], .agg [.lit (.int .i64 11), .lit (.int .i64 4), .lit (.int .i64 1), .lit (.int .i64 3)], .agg [.lit (.int .i64 12), .lit (.int .i64 5), .lit (.int .i64 2), .lit (.int .i64 0)], .agg [.lit (.int .i64 13), .lit (.int .i64 5), .lit (.int .i64 2), .lit (.int .i64 0)], .agg [.lit (.int .i64 14), .lit (.int .i64 6), .lit (.int .i64 2), .lit (.int .i64 0)], .agg [.lit (.int .i64 15), .lit (.int .i64 6), .lit (.int .i64 2), .lit (.int .i64 0)], .agg [.lit (.int .i64 16), .lit (.int .i64 7), .lit (.int .i64 2), .lit (.int .i64 0)]]

/-- 'keepsakelaw03.GeoTells': WHATEVER THE INPUT: true; the input reads as it did. -/
def geoTellsSpec : ChangeSpec := { name := "geoTells", fn := fun _ => fun
  | [d1, d2, d3] => { results := [.lit (.bool true)], args := [d1, d2, d3] }
  | _ => none }
def geoTellsRow : OpenClaim := { program := "ytnmacehnnmcalaadoor", sum := "9ff6b65a470b678833e78282374a77de923617d10064111becd95d790a1b198d", func := "keepsake/keepsakelaw03.GeoTells", spec := "geoTells", named := ["keepsake/geo.rows"], apart := false, laid := [("keepsake/geo.rows", laid_keepsake_geo_rows)] }
def GeoTellsSaid : Prop := geoTellsRow.holds Tryd.pinned (OpenSpec.ofChange geoTellsSpec)

/-- ITS FALSE NEIGHBOUR: 'it returns false'. Refute it at one input. -/
def geoTellsWrong : ChangeSpec := { name := "geoTells", fn := fun _ => fun
  | [d1, d2, d3] => { results := [.lit (.bool false)], args := [d1, d2, d3] }
  | _ => none }
def GeoTellsWrongFalsely : Prop := geoTellsRow.holds Tryd.pinned (OpenSpec.ofChange geoTellsWrong)

/-- 'keepsakelaw03.GeoDoubles': WHATEVER THE INPUT: true; the input reads as it did. -/
def geoDoublesSpec : ChangeSpec := { name := "geoDoubles", fn := fun _ => fun
  | [d] => { results := [.lit (.bool true)], args := [d] }
  | _ => none }
def geoDoublesRow : OpenClaim := { program := "ytnmacehnnmcalaadoor", sum := "9ff6b65a470b678833e78282374a77de923617d10064111becd95d790a1b198d", func := "keepsake/keepsakelaw03.GeoDoubles", spec := "geoDoubles", named := ["keepsake/geo.rows"], apart := false, laid := [("keepsake/geo.rows", laid_keepsake_geo_rows)] }
def GeoDoublesSaid : Prop := geoDoublesRow.holds Tryd.pinned (OpenSpec.ofChange geoDoublesSpec)

/-- ITS FALSE NEIGHBOUR: 'it returns false'. Refute it at one input. -/
def geoDoublesWrong : ChangeSpec := { name := "geoDoubles", fn := fun _ => fun
  | [d] => { results := [.lit (.bool false)], args := [d] }
  | _ => none }
def GeoDoublesWrongFalsely : Prop := geoDoublesRow.holds Tryd.pinned (OpenSpec.ofChange geoDoublesWrong)

/-- 'keepsakelaw03.GeoAddress': WHATEVER THE INPUT: true; the input reads as it did. -/
def geoAddressSpec : ChangeSpec := { name := "geoAddress", fn := fun _ => fun
  | [d] => { results := [.lit (.bool true)], args := [d] }
  | _ => none }
def geoAddressRow : OpenClaim := { program := "ytnmacehnnmcalaadoor", sum := "9ff6b65a470b678833e78282374a77de923617d10064111becd95d790a1b198d", func := "keepsake/keepsakelaw03.GeoAddress", spec := "geoAddress", named := ["keepsake/geo.rows"], apart := false, laid := [("keepsake/geo.rows", laid_keepsake_geo_rows)] }
def GeoAddressSaid : Prop := geoAddressRow.holds Tryd.pinned (OpenSpec.ofChange geoAddressSpec)

/-- ITS FALSE NEIGHBOUR: 'it returns false'. Refute it at one input. -/
def geoAddressWrong : ChangeSpec := { name := "geoAddress", fn := fun _ => fun
  | [d] => { results := [.lit (.bool false)], args := [d] }
  | _ => none }
def GeoAddressWrongFalsely : Prop := geoAddressRow.holds Tryd.pinned (OpenSpec.ofChange geoAddressWrong)

/-- 'keepsakelaw03.GeoTotals': WHATEVER THE INPUT: true; the input reads as it did. -/
def geoTotalsSpec : ChangeSpec := { name := "geoTotals", fn := fun _ => fun
  | [d] => { results := [.lit (.bool true)], args := [d] }
  | _ => none }
def geoTotalsRow : OpenClaim := { program := "ytnmacehnnmcalaadoor", sum := "9ff6b65a470b678833e78282374a77de923617d10064111becd95d790a1b198d", func := "keepsake/keepsakelaw03.GeoTotals", spec := "geoTotals", named := ["keepsake/geo.rows"], apart := false, laid := [("keepsake/geo.rows", laid_keepsake_geo_rows)] }
def GeoTotalsSaid : Prop := geoTotalsRow.holds Tryd.pinned (OpenSpec.ofChange geoTotalsSpec)

/-- ITS FALSE NEIGHBOUR: 'it returns false'. Refute it at one input. -/
def geoTotalsWrong : ChangeSpec := { name := "geoTotals", fn := fun _ => fun
  | [d] => { results := [.lit (.bool false)], args := [d] }
  | _ => none }
def GeoTotalsWrongFalsely : Prop := geoTotalsRow.holds Tryd.pinned (OpenSpec.ofChange geoTotalsWrong)

/-- 'keepsakelaw03.GeoParts': WHATEVER THE INPUT: true; the input reads as it did. -/
def geoPartsSpec : ChangeSpec := { name := "geoParts", fn := fun _ => fun
  | [d1, d2, d3] => { results := [.lit (.bool true)], args := [d1, d2, d3] }
  | _ => none }
def geoPartsRow : OpenClaim := { program := "ytnmacehnnmcalaadoor", sum := "9ff6b65a470b678833e78282374a77de923617d10064111becd95d790a1b198d", func := "keepsake/keepsakelaw03.GeoParts", spec := "geoParts", named := ["keepsake/geo.rows"], apart := false, laid := [("keepsake/geo.rows", laid_keepsake_geo_rows)] }
def GeoPartsSaid : Prop := geoPartsRow.holds Tryd.pinned (OpenSpec.ofChange geoPartsSpec)

/-- ITS FALSE NEIGHBOUR: 'it returns false'. Refute it at one input. -/
def geoPartsWrong : ChangeSpec := { name := "geoParts", fn := fun _ => fun
  | [d1, d2, d3] => { results := [.lit (.bool false)], args := [d1, d2, d3] }
  | _ => none }
def GeoPartsWrongFalsely : Prop := geoPartsRow.holds Tryd.pinned (OpenSpec.ofChange geoPartsWrong)

/- THE SECOND FORM. 'bulk': how many values and letters a reading holds, each counted each time it is reached (what is shared counts as often as it is met; a slice's spare places count too). A statement '..UptoSaid' is the law's where the arguments, and the package variables that the reading takes, are together of bulk at most 1048576: NARROWER than '..Said'. Prove '..Said' where nothing that the law and all that it calls make is longer than what came in: it says more and counts as full. Else prove '..UptoSaid'. A law counts once. -/
mutual
def uptoBulk {H : Type} : DataW H → Nat
  | .lit (.string bytes) => bytes.length + 1
  | .lit _ => 1
  | .nil => 1
  | .ptr d => uptoBulk d + 1
  | .slice elems spare => uptoBulkAll elems + uptoBulkAll spare + 1
  | .agg parts => uptoBulkAll parts + 1
  | .iface _ d => uptoBulk d + 1
  | .map entries => uptoBulkEntries entries + 1
  | .held _ => 1
def uptoBulkAll {H : Type} : List (DataW H) → Nat
  | [] => 0
  | d :: r => uptoBulk d + uptoBulkAll r
def uptoBulkEntries {H : Type} : List (Lit × DataW H) → Nat
  | [] => 0
  | x :: r => uptoBulkEntry x + uptoBulkEntries r
def uptoBulkEntry {H : Type} : Lit × DataW H → Nat
  | (.string bytes, d) => bytes.length + uptoBulk d + 1
  | (_, d) => uptoBulk d + 1
 end
def uptoSmall : (H : Type) → List (DataW H) → Bool := fun _ ds => decide (uptoBulkAll ds ≤ 1048576)
def OpenSpec.upto (s : _root_.Go.ChangeSpec) : _root_.Go.OpenSpec := { _root_.Go.OpenSpec.ofChange s with cond := some uptoSmall }

/-- 'keepsakelaw03.GeoTells', WHERE WHAT IT READS IS OF BULK AT MOST 1048576: true; the input reads as it did. -/
def geoTellsUptoRow : OpenClaim := { program := "ytnmacehnnmcalaadoor", sum := "9ff6b65a470b678833e78282374a77de923617d10064111becd95d790a1b198d", func := "keepsake/keepsakelaw03.GeoTells", spec := "geoTells", named := ["keepsake/geo.rows"], apart := false, laid := [("keepsake/geo.rows", laid_keepsake_geo_rows)], narrowed := true }
def GeoTellsUptoSaid : Prop := geoTellsUptoRow.holds Tryd.pinned (OpenSpec.upto geoTellsSpec)

/-- 'keepsakelaw03.GeoDoubles', WHERE WHAT IT READS IS OF BULK AT MOST 1048576: true; the input reads as it did. -/
def geoDoublesUptoRow : OpenClaim := { program := "ytnmacehnnmcalaadoor", sum := "9ff6b65a470b678833e78282374a77de923617d10064111becd95d790a1b198d", func := "keepsake/keepsakelaw03.GeoDoubles", spec := "geoDoubles", named := ["keepsake/geo.rows"], apart := false, laid := [("keepsake/geo.rows", laid_keepsake_geo_rows)], narrowed := true }
def GeoDoublesUptoSaid : Prop := geoDoublesUptoRow.holds Tryd.pinned (OpenSpec.upto geoDoublesSpec)

/-- 'keepsakelaw03.GeoAddress', WHERE WHAT IT READS IS OF BULK AT MOST 1048576: true; the input reads as it did. -/
def geoAddressUptoRow : OpenClaim := { program := "ytnmacehnnmcalaadoor", sum := "9ff6b65a470b678833e78282374a77de923617d10064111becd95d790a1b198d", func := "keepsake/keepsakelaw03.GeoAddress", spec := "geoAddress", named := ["keepsake/geo.rows"], apart := false, laid := [("keepsake/geo.rows", laid_keepsake_geo_rows)], narrowed := true }
def GeoAddressUptoSaid : Prop := geoAddressUptoRow.holds Tryd.pinned (OpenSpec.upto geoAddressSpec)

/-- 'keepsakelaw03.GeoTotals', WHERE WHAT IT READS IS OF BULK AT MOST 1048576: true; the input reads as it did. -/
def geoTotalsUptoRow : OpenClaim := { program := "ytnmacehnnmcalaadoor", sum := "9ff6b65a470b678833e78282374a77de923617d10064111becd95d790a1b198d", func := "keepsake/keepsakelaw03.GeoTotals", spec := "geoTotals", named := ["keepsake/geo.rows"], apart := false, laid := [("keepsake/geo.rows", laid_keepsake_geo_rows)], narrowed := true }
def GeoTotalsUptoSaid : Prop := geoTotalsUptoRow.holds Tryd.pinned (OpenSpec.upto geoTotalsSpec)

/-- 'keepsakelaw03.GeoParts', WHERE WHAT IT READS IS OF BULK AT MOST 1048576: true; the input reads as it did. -/
def geoPartsUptoRow : OpenClaim := { program := "ytnmacehnnmcalaadoor", sum := "9ff6b65a470b678833e78282374a77de923617d10064111becd95d790a1b198d", func := "keepsake/keepsakelaw03.GeoParts", spec := "geoParts", named := ["keepsake/geo.rows"], apart := false, laid := [("keepsake/geo.rows", laid_keepsake_geo_rows)], narrowed := true }
def GeoPartsUptoSaid : Prop := geoPartsUptoRow.holds Tryd.pinned (OpenSpec.upto geoPartsSpec)

end Rows
end Go.Proofs.YtnmacehnnmcalaaDoor
