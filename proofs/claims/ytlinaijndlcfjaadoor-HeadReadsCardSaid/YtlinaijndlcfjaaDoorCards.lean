/-
  DERIVED. GIVEN WITH THE SEED: THE CARDS: each row of YtlinaijndlcfjaaDoorRows.lean that lists a variable, with what it lists TIED to the program's text (the seventh form; the later family's looks); each row that meets fmt, with fmt's text TOLD by the authors' own Lean function (tested against real Go, not proved from fmt's source: count such statements apart). THE CARD IS WHAT COUNTS. Prove the row's statement (the work); the ties are given (YtlinaijndlcfjaaDoorTie.lean); close each card by the builder's one call (the guide's Derived/Test/ToyasCard.lean, 'card_holds'). Laid BY PROGRAM, IN A SANDBOX (cutbox-door.mjs). By AI agents, Wed Nov 11 2026. No macro, syntax, notation, axiom, sorry.
-/
import Derived.Test.YtlinaijndlcfjaaDoorRows
import GoSem.ClaimSeven
namespace Go.Proofs.YtlinaijndlcfjaaDoor
namespace Rows

/-- THE TIED CARD OF 'keepsakelaw04.HeadTells'. -/
def headTellsCard : Claim7 := { stood := { row := headTellsRow, standIns := [], harness := (true, "9f42d76ac9ef51c6025c58f8e64c1d01156693b83e31ca99bd731739de3d05c7"), looks := false }, kinds := [], alts := [], laidByText := true, laidKinds := [.data], laidTests := true, laidLooks := .later }
def HeadTellsCardSaid : Prop := Claim7.holds Tryd.pinned (.plain (OpenSpec.ofChange headTellsSpec)) headTellsCard

/-- THE TIED CARD OF 'keepsakelaw04.HeadReads'. -/
def headReadsCard : Claim7 := { stood := { row := headReadsRow, standIns := [], harness := (true, "9f42d76ac9ef51c6025c58f8e64c1d01156693b83e31ca99bd731739de3d05c7"), looks := false }, kinds := [], alts := [], laidByText := true, laidKinds := [.data], laidTests := true, laidLooks := .later }
def HeadReadsCardSaid : Prop := Claim7.holds Tryd.pinned (.plain (OpenSpec.ofChange headReadsSpec)) headReadsCard

/-- THE TIED CARD OF 'keepsakelaw04.HeadBack'. -/
def headBackCard : Claim7 := { stood := { row := headBackRow, standIns := [], harness := (true, "9f42d76ac9ef51c6025c58f8e64c1d01156693b83e31ca99bd731739de3d05c7"), looks := false }, kinds := [], alts := [], laidByText := true, laidKinds := [.data], laidTests := true, laidLooks := .later }
def HeadBackCardSaid : Prop := Claim7.holds Tryd.pinned (.plain (OpenSpec.ofChange headBackSpec)) headBackCard

/-- THE TIED CARD OF 'keepsakelaw04.HeadBursts'. -/
def headBurstsCard : Claim7 := { stood := { row := headBurstsRow, standIns := [], harness := (true, "9f42d76ac9ef51c6025c58f8e64c1d01156693b83e31ca99bd731739de3d05c7"), looks := false }, kinds := [], alts := [], laidByText := true, laidKinds := [.data], laidTests := true, laidLooks := .later }
def HeadBurstsCardSaid : Prop := Claim7.holds Tryd.pinned (.plain (OpenSpec.ofChange headBurstsSpec)) headBurstsCard

/-- THE TIED CARD OF 'keepsakelaw04.HeadAgain'. -/
def headAgainCard : Claim7 := { stood := { row := headAgainRow, standIns := [], harness := (true, "9f42d76ac9ef51c6025c58f8e64c1d01156693b83e31ca99bd731739de3d05c7"), looks := false }, kinds := [], alts := [], laidByText := true, laidKinds := [.data], laidTests := true, laidLooks := .later }
def HeadAgainCardSaid : Prop := Claim7.holds Tryd.pinned (.plain (OpenSpec.ofChange headAgainSpec)) headAgainCard

/-- THE TIED CARD OF 'keepsakelaw04.HeadNumbers'. -/
def headNumbersCard : Claim7 := { stood := { row := headNumbersRow, standIns := [], harness := (true, "9f42d76ac9ef51c6025c58f8e64c1d01156693b83e31ca99bd731739de3d05c7"), looks := false }, kinds := [], alts := [], laidByText := true, laidKinds := [.data], laidTests := true, laidLooks := .later }
def HeadNumbersCardSaid : Prop := Claim7.holds Tryd.pinned (.plain (OpenSpec.ofChange headNumbersSpec)) headNumbersCard

/-- THE SECOND FORM's CARD OF 'keepsakelaw04.HeadTells'. -/
def headTellsUptoCard : Claim7 := { stood := { row := headTellsUptoRow, standIns := [], harness := (true, "9f42d76ac9ef51c6025c58f8e64c1d01156693b83e31ca99bd731739de3d05c7"), looks := false }, kinds := [], alts := [], laidByText := true, laidKinds := [.data], laidTests := true, laidLooks := .later }
def HeadTellsUptoCardSaid : Prop := Claim7.holds Tryd.pinned (.plain (OpenSpec.upto headTellsSpec)) headTellsUptoCard

/-- THE SECOND FORM's CARD OF 'keepsakelaw04.HeadReads'. -/
def headReadsUptoCard : Claim7 := { stood := { row := headReadsUptoRow, standIns := [], harness := (true, "9f42d76ac9ef51c6025c58f8e64c1d01156693b83e31ca99bd731739de3d05c7"), looks := false }, kinds := [], alts := [], laidByText := true, laidKinds := [.data], laidTests := true, laidLooks := .later }
def HeadReadsUptoCardSaid : Prop := Claim7.holds Tryd.pinned (.plain (OpenSpec.upto headReadsSpec)) headReadsUptoCard

/-- THE SECOND FORM's CARD OF 'keepsakelaw04.HeadBack'. -/
def headBackUptoCard : Claim7 := { stood := { row := headBackUptoRow, standIns := [], harness := (true, "9f42d76ac9ef51c6025c58f8e64c1d01156693b83e31ca99bd731739de3d05c7"), looks := false }, kinds := [], alts := [], laidByText := true, laidKinds := [.data], laidTests := true, laidLooks := .later }
def HeadBackUptoCardSaid : Prop := Claim7.holds Tryd.pinned (.plain (OpenSpec.upto headBackSpec)) headBackUptoCard

/-- THE SECOND FORM's CARD OF 'keepsakelaw04.HeadBursts'. -/
def headBurstsUptoCard : Claim7 := { stood := { row := headBurstsUptoRow, standIns := [], harness := (true, "9f42d76ac9ef51c6025c58f8e64c1d01156693b83e31ca99bd731739de3d05c7"), looks := false }, kinds := [], alts := [], laidByText := true, laidKinds := [.data], laidTests := true, laidLooks := .later }
def HeadBurstsUptoCardSaid : Prop := Claim7.holds Tryd.pinned (.plain (OpenSpec.upto headBurstsSpec)) headBurstsUptoCard

/-- THE SECOND FORM's CARD OF 'keepsakelaw04.HeadAgain'. -/
def headAgainUptoCard : Claim7 := { stood := { row := headAgainUptoRow, standIns := [], harness := (true, "9f42d76ac9ef51c6025c58f8e64c1d01156693b83e31ca99bd731739de3d05c7"), looks := false }, kinds := [], alts := [], laidByText := true, laidKinds := [.data], laidTests := true, laidLooks := .later }
def HeadAgainUptoCardSaid : Prop := Claim7.holds Tryd.pinned (.plain (OpenSpec.upto headAgainSpec)) headAgainUptoCard

/-- THE SECOND FORM's CARD OF 'keepsakelaw04.HeadNumbers'. -/
def headNumbersUptoCard : Claim7 := { stood := { row := headNumbersUptoRow, standIns := [], harness := (true, "9f42d76ac9ef51c6025c58f8e64c1d01156693b83e31ca99bd731739de3d05c7"), looks := false }, kinds := [], alts := [], laidByText := true, laidKinds := [.data], laidTests := true, laidLooks := .later }
def HeadNumbersUptoCardSaid : Prop := Claim7.holds Tryd.pinned (.plain (OpenSpec.upto headNumbersSpec)) headNumbersUptoCard
end Rows
end Go.Proofs.YtlinaijndlcfjaaDoor
