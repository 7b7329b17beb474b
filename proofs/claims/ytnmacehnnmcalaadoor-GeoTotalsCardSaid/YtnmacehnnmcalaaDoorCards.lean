/-
  DERIVED. GIVEN WITH THE SEED: THE CARDS: each row of YtnmacehnnmcalaaDoorRows.lean that lists a variable, with what it lists TIED to the program's text (the seventh form; the later family's looks); each row that meets fmt, with fmt's text TOLD by the authors' own Lean function (tested against real Go, not proved from fmt's source: count such statements apart). THE CARD IS WHAT COUNTS. Prove the row's statement (the work); the ties are given (YtnmacehnnmcalaaDoorTie.lean); close each card by the builder's one call (the guide's Derived/Test/ToyasCard.lean, 'card_holds'). Laid BY PROGRAM, IN A SANDBOX (cutbox-door.mjs). By AI agents, Wed Nov 11 2026. No macro, syntax, notation, axiom, sorry.
-/
import Derived.Test.YtnmacehnnmcalaaDoorRows
import GoSem.ClaimSeven
namespace Go.Proofs.YtnmacehnnmcalaaDoor
namespace Rows

/-- THE TIED CARD OF 'keepsakelaw03.GeoTells'. -/
def geoTellsCard : Claim7 := { stood := { row := geoTellsRow, standIns := [], harness := (true, "e1a3b0218380f837d4edfbf361511f8d3b4e6d1b404ff9995e891480aed54728"), looks := false }, kinds := [], alts := [], laidByText := true, laidKinds := [.data], laidTests := true, laidLooks := .later }
def GeoTellsCardSaid : Prop := Claim7.holds Tryd.pinned (.plain (OpenSpec.ofChange geoTellsSpec)) geoTellsCard

/-- THE TIED CARD OF 'keepsakelaw03.GeoDoubles'. -/
def geoDoublesCard : Claim7 := { stood := { row := geoDoublesRow, standIns := [], harness := (true, "e1a3b0218380f837d4edfbf361511f8d3b4e6d1b404ff9995e891480aed54728"), looks := false }, kinds := [], alts := [], laidByText := true, laidKinds := [.data], laidTests := true, laidLooks := .later }
def GeoDoublesCardSaid : Prop := Claim7.holds Tryd.pinned (.plain (OpenSpec.ofChange geoDoublesSpec)) geoDoublesCard

/-- THE TIED CARD OF 'keepsakelaw03.GeoAddress'. -/
def geoAddressCard : Claim7 := { stood := { row := geoAddressRow, standIns := [], harness := (true, "e1a3b0218380f837d4edfbf361511f8d3b4e6d1b404ff9995e891480aed54728"), looks := false }, kinds := [], alts := [], laidByText := true, laidKinds := [.data], laidTests := true, laidLooks := .later }
def GeoAddressCardSaid : Prop := Claim7.holds Tryd.pinned (.plain (OpenSpec.ofChange geoAddressSpec)) geoAddressCard

/-- THE TIED CARD OF 'keepsakelaw03.GeoTotals'. -/
def geoTotalsCard : Claim7 := { stood := { row := geoTotalsRow, standIns := [], harness := (true, "e1a3b0218380f837d4edfbf361511f8d3b4e6d1b404ff9995e891480aed54728"), looks := false }, kinds := [], alts := [], laidByText := true, laidKinds := [.data], laidTests := true, laidLooks := .later }
def GeoTotalsCardSaid : Prop := Claim7.holds Tryd.pinned (.plain (OpenSpec.ofChange geoTotalsSpec)) geoTotalsCard

/-- THE TIED CARD OF 'keepsakelaw03.GeoParts'. -/
def geoPartsCard : Claim7 := { stood := { row := geoPartsRow, standIns := [], harness := (true, "e1a3b0218380f837d4edfbf361511f8d3b4e6d1b404ff9995e891480aed54728"), looks := false }, kinds := [], alts := [], laidByText := true, laidKinds := [.data], laidTests := true, laidLooks := .later }
def GeoPartsCardSaid : Prop := Claim7.holds Tryd.pinned (.plain (OpenSpec.ofChange geoPartsSpec)) geoPartsCard

/-- THE SECOND FORM's CARD OF 'keepsakelaw03.GeoTells'. -/
def geoTellsUptoCard : Claim7 := { stood := { row := geoTellsUptoRow, standIns := [], harness := (true, "e1a3b0218380f837d4edfbf361511f8d3b4e6d1b404ff9995e891480aed54728"), looks := false }, kinds := [], alts := [], laidByText := true, laidKinds := [.data], laidTests := true, laidLooks := .later }
def GeoTellsUptoCardSaid : Prop := Claim7.holds Tryd.pinned (.plain (OpenSpec.upto geoTellsSpec)) geoTellsUptoCard

/-- THE SECOND FORM's CARD OF 'keepsakelaw03.GeoDoubles'. -/
def geoDoublesUptoCard : Claim7 := { stood := { row := geoDoublesUptoRow, standIns := [], harness := (true, "e1a3b0218380f837d4edfbf361511f8d3b4e6d1b404ff9995e891480aed54728"), looks := false }, kinds := [], alts := [], laidByText := true, laidKinds := [.data], laidTests := true, laidLooks := .later }
def GeoDoublesUptoCardSaid : Prop := Claim7.holds Tryd.pinned (.plain (OpenSpec.upto geoDoublesSpec)) geoDoublesUptoCard

/-- THE SECOND FORM's CARD OF 'keepsakelaw03.GeoAddress'. -/
def geoAddressUptoCard : Claim7 := { stood := { row := geoAddressUptoRow, standIns := [], harness := (true, "e1a3b0218380f837d4edfbf361511f8d3b4e6d1b404ff9995e891480aed54728"), looks := false }, kinds := [], alts := [], laidByText := true, laidKinds := [.data], laidTests := true, laidLooks := .later }
def GeoAddressUptoCardSaid : Prop := Claim7.holds Tryd.pinned (.plain (OpenSpec.upto geoAddressSpec)) geoAddressUptoCard

/-- THE SECOND FORM's CARD OF 'keepsakelaw03.GeoTotals'. -/
def geoTotalsUptoCard : Claim7 := { stood := { row := geoTotalsUptoRow, standIns := [], harness := (true, "e1a3b0218380f837d4edfbf361511f8d3b4e6d1b404ff9995e891480aed54728"), looks := false }, kinds := [], alts := [], laidByText := true, laidKinds := [.data], laidTests := true, laidLooks := .later }
def GeoTotalsUptoCardSaid : Prop := Claim7.holds Tryd.pinned (.plain (OpenSpec.upto geoTotalsSpec)) geoTotalsUptoCard

/-- THE SECOND FORM's CARD OF 'keepsakelaw03.GeoParts'. -/
def geoPartsUptoCard : Claim7 := { stood := { row := geoPartsUptoRow, standIns := [], harness := (true, "e1a3b0218380f837d4edfbf361511f8d3b4e6d1b404ff9995e891480aed54728"), looks := false }, kinds := [], alts := [], laidByText := true, laidKinds := [.data], laidTests := true, laidLooks := .later }
def GeoPartsUptoCardSaid : Prop := Claim7.holds Tryd.pinned (.plain (OpenSpec.upto geoPartsSpec)) geoPartsUptoCard
end Rows
end Go.Proofs.YtnmacehnnmcalaaDoor
