/-
  DERIVED. GIVEN WITH THE SEED: THE CARDS: each row of YtmlldfkmmmncgaaDoorRows.lean that lists a variable, with what it lists TIED to the program's text (the seventh form; the later family's looks); each row that meets fmt, with fmt's text TOLD by the authors' own Lean function (tested against real Go, not proved from fmt's source: count such statements apart). THE CARD IS WHAT COUNTS. Prove the row's statement (the work); the ties are given (YtmlldfkmmmncgaaDoorTie.lean); close each card by the builder's one call (the guide's Derived/Test/ToyasCard.lean, 'card_holds'). Laid BY PROGRAM, IN A SANDBOX (cutbox-door.mjs). By AI agents, Wed Nov 11 2026. No macro, syntax, notation, axiom, sorry.
-/
import Derived.Test.YtmlldfkmmmncgaaDoorRows
import GoSem.ClaimSeven
namespace Go.Proofs.YtmlldfkmmmncgaaDoor
namespace Rows

/-- THE TIED CARD OF 'keepsakelaw05.ImageFactory'. -/
def imageFactoryCard : Claim7 := { stood := { row := imageFactoryRow, standIns := [], harness := (true, "e9c7680e5afc3774fe3f9700ac5b428cb39d1eb288a570bb0d670c77b140ea78"), looks := false }, kinds := [], alts := [], laidByText := true, laidKinds := [.data], laidTests := true, laidLooks := .later }
def ImageFactoryCardSaid : Prop := Claim7.holds Tryd.pinned (.plain (OpenSpec.ofChange imageFactorySpec)) imageFactoryCard

/-- THE TIED CARD OF 'keepsakelaw05.ImageOwn'. -/
def imageOwnCard : Claim7 := { stood := { row := imageOwnRow, standIns := [], harness := (true, "e9c7680e5afc3774fe3f9700ac5b428cb39d1eb288a570bb0d670c77b140ea78"), looks := false }, kinds := [], alts := [], laidByText := true, laidKinds := [.data], laidTests := true, laidLooks := .later }
def ImageOwnCardSaid : Prop := Claim7.holds Tryd.pinned (.plain (OpenSpec.ofChange imageOwnSpec)) imageOwnCard

/-- THE TIED CARD OF 'keepsakelaw05.ImageNeeds'. -/
def imageNeedsCard : Claim7 := { stood := { row := imageNeedsRow, standIns := [], harness := (true, "e9c7680e5afc3774fe3f9700ac5b428cb39d1eb288a570bb0d670c77b140ea78"), looks := false }, kinds := [], alts := [], laidByText := true, laidKinds := [.data], laidTests := true, laidLooks := .later }
def ImageNeedsCardSaid : Prop := Claim7.holds Tryd.pinned (.plain (OpenSpec.ofChange imageNeedsSpec)) imageNeedsCard

/-- THE TIED CARD OF 'keepsakelaw05.ImagePacks'. -/
def imagePacksCard : Claim7 := { stood := { row := imagePacksRow, standIns := [], harness := (true, "e9c7680e5afc3774fe3f9700ac5b428cb39d1eb288a570bb0d670c77b140ea78"), looks := false }, kinds := [], alts := [], laidByText := true, laidKinds := [.data], laidTests := true, laidLooks := .later }
def ImagePacksCardSaid : Prop := Claim7.holds Tryd.pinned (.plain (OpenSpec.ofChange imagePacksSpec)) imagePacksCard

/-- THE TIED CARD OF 'keepsakelaw05.ImageCuts'. -/
def imageCutsCard : Claim7 := { stood := { row := imageCutsRow, standIns := [], harness := (true, "e9c7680e5afc3774fe3f9700ac5b428cb39d1eb288a570bb0d670c77b140ea78"), looks := false }, kinds := [], alts := [], laidByText := true, laidKinds := [.data], laidTests := true, laidLooks := .later }
def ImageCutsCardSaid : Prop := Claim7.holds Tryd.pinned (.plain (OpenSpec.ofChange imageCutsSpec)) imageCutsCard

/-- THE TIED CARD OF 'keepsakelaw05.ImageGlues'. -/
def imageGluesCard : Claim7 := { stood := { row := imageGluesRow, standIns := [], harness := (true, "e9c7680e5afc3774fe3f9700ac5b428cb39d1eb288a570bb0d670c77b140ea78"), looks := false }, kinds := [], alts := [], laidByText := true, laidKinds := [.data], laidTests := true, laidLooks := .later }
def ImageGluesCardSaid : Prop := Claim7.holds Tryd.pinned (.plain (OpenSpec.ofChange imageGluesSpec)) imageGluesCard

/-- THE TIED CARD OF 'keepsakelaw05.ImageBack'. -/
def imageBackCard : Claim7 := { stood := { row := imageBackRow, standIns := [], harness := (true, "e9c7680e5afc3774fe3f9700ac5b428cb39d1eb288a570bb0d670c77b140ea78"), looks := false }, kinds := [], alts := [], laidByText := true, laidKinds := [.data], laidTests := true, laidLooks := .later }
def ImageBackCardSaid : Prop := Claim7.holds Tryd.pinned (.plain (OpenSpec.ofChange imageBackSpec)) imageBackCard

/-- THE SECOND FORM's CARD OF 'keepsakelaw05.ImageFactory'. -/
def imageFactoryUptoCard : Claim7 := { stood := { row := imageFactoryUptoRow, standIns := [], harness := (true, "e9c7680e5afc3774fe3f9700ac5b428cb39d1eb288a570bb0d670c77b140ea78"), looks := false }, kinds := [], alts := [], laidByText := true, laidKinds := [.data], laidTests := true, laidLooks := .later }
def ImageFactoryUptoCardSaid : Prop := Claim7.holds Tryd.pinned (.plain (OpenSpec.upto imageFactorySpec)) imageFactoryUptoCard

/-- THE SECOND FORM's CARD OF 'keepsakelaw05.ImageOwn'. -/
def imageOwnUptoCard : Claim7 := { stood := { row := imageOwnUptoRow, standIns := [], harness := (true, "e9c7680e5afc3774fe3f9700ac5b428cb39d1eb288a570bb0d670c77b140ea78"), looks := false }, kinds := [], alts := [], laidByText := true, laidKinds := [.data], laidTests := true, laidLooks := .later }
def ImageOwnUptoCardSaid : Prop := Claim7.holds Tryd.pinned (.plain (OpenSpec.upto imageOwnSpec)) imageOwnUptoCard

/-- THE SECOND FORM's CARD OF 'keepsakelaw05.ImageNeeds'. -/
def imageNeedsUptoCard : Claim7 := { stood := { row := imageNeedsUptoRow, standIns := [], harness := (true, "e9c7680e5afc3774fe3f9700ac5b428cb39d1eb288a570bb0d670c77b140ea78"), looks := false }, kinds := [], alts := [], laidByText := true, laidKinds := [.data], laidTests := true, laidLooks := .later }
def ImageNeedsUptoCardSaid : Prop := Claim7.holds Tryd.pinned (.plain (OpenSpec.upto imageNeedsSpec)) imageNeedsUptoCard

/-- THE SECOND FORM's CARD OF 'keepsakelaw05.ImagePacks'. -/
def imagePacksUptoCard : Claim7 := { stood := { row := imagePacksUptoRow, standIns := [], harness := (true, "e9c7680e5afc3774fe3f9700ac5b428cb39d1eb288a570bb0d670c77b140ea78"), looks := false }, kinds := [], alts := [], laidByText := true, laidKinds := [.data], laidTests := true, laidLooks := .later }
def ImagePacksUptoCardSaid : Prop := Claim7.holds Tryd.pinned (.plain (OpenSpec.upto imagePacksSpec)) imagePacksUptoCard

/-- THE SECOND FORM's CARD OF 'keepsakelaw05.ImageCuts'. -/
def imageCutsUptoCard : Claim7 := { stood := { row := imageCutsUptoRow, standIns := [], harness := (true, "e9c7680e5afc3774fe3f9700ac5b428cb39d1eb288a570bb0d670c77b140ea78"), looks := false }, kinds := [], alts := [], laidByText := true, laidKinds := [.data], laidTests := true, laidLooks := .later }
def ImageCutsUptoCardSaid : Prop := Claim7.holds Tryd.pinned (.plain (OpenSpec.upto imageCutsSpec)) imageCutsUptoCard

/-- THE SECOND FORM's CARD OF 'keepsakelaw05.ImageGlues'. -/
def imageGluesUptoCard : Claim7 := { stood := { row := imageGluesUptoRow, standIns := [], harness := (true, "e9c7680e5afc3774fe3f9700ac5b428cb39d1eb288a570bb0d670c77b140ea78"), looks := false }, kinds := [], alts := [], laidByText := true, laidKinds := [.data], laidTests := true, laidLooks := .later }
def ImageGluesUptoCardSaid : Prop := Claim7.holds Tryd.pinned (.plain (OpenSpec.upto imageGluesSpec)) imageGluesUptoCard

/-- THE SECOND FORM's CARD OF 'keepsakelaw05.ImageBack'. -/
def imageBackUptoCard : Claim7 := { stood := { row := imageBackUptoRow, standIns := [], harness := (true, "e9c7680e5afc3774fe3f9700ac5b428cb39d1eb288a570bb0d670c77b140ea78"), looks := false }, kinds := [], alts := [], laidByText := true, laidKinds := [.data], laidTests := true, laidLooks := .later }
def ImageBackUptoCardSaid : Prop := Claim7.holds Tryd.pinned (.plain (OpenSpec.upto imageBackSpec)) imageBackUptoCard
end Rows
end Go.Proofs.YtmlldfkmmmncgaaDoor
