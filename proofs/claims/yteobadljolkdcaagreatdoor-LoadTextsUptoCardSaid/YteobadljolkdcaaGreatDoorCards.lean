/-
  DERIVED. GIVEN WITH THE SEED: THE CARDS: each row of YteobadljolkdcaaGreatDoorRows.lean that lists a variable, with what it lists TIED to the program's text (the seventh form; the later family's looks); each row that meets fmt, with fmt's text TOLD by the authors' own Lean function (tested against real Go, not proved from fmt's source: count such statements apart). THE CARD IS WHAT COUNTS. Prove the row's statement (the work); the ties are given (YteobadljolkdcaaGreatDoorTie.lean); close each card by the builder's one call (the guide's Derived/Test/ToyasCard.lean, 'card_holds'). Laid BY PROGRAM, IN A SANDBOX (cutbox-door.mjs). By AI agents, Wed Nov 11 2026. No macro, syntax, notation, axiom, sorry.
-/
import Derived.Test.YteobadljolkdcaaGreatDoorRows
import GoSem.ClaimSeven
namespace Go.Proofs.YteobadljolkdcaaGreatDoor
namespace Rows

/-- THE TIED CARD OF 'tammylaw09.LoadTells'. -/
def loadTellsCard : Claim7 := { stood := { row := loadTellsRow, standIns := [], harness := (true, "d9e45c7a85440ded99cc65c3aed36d5843c08e705728d8fd0a90df0932feacbb"), looks := false }, kinds := [], alts := [], laidByText := true, laidKinds := [.data, .data, .data], laidTests := true, laidLooks := .later }
def LoadTellsCardSaid : Prop := Claim7.holds Tryz.pinned (.plain (OpenSpec.ofChange loadTellsSpec)) loadTellsCard

/-- THE TIED CARD OF 'tammylaw09.LoadBack'. -/
def loadBackCard : Claim7 := { stood := { row := loadBackRow, standIns := [], harness := (true, "d9e45c7a85440ded99cc65c3aed36d5843c08e705728d8fd0a90df0932feacbb"), looks := false }, kinds := [], alts := [], laidByText := true, laidKinds := [.data, .data, .data], laidTests := true, laidLooks := .later }
def LoadBackCardSaid : Prop := Claim7.holds Tryz.pinned (.plain (OpenSpec.ofChange loadBackSpec)) loadBackCard

/-- THE TIED CARD OF 'tammylaw09.LoadStays'. -/
def loadStaysCard : Claim7 := { stood := { row := loadStaysRow, standIns := [], harness := (true, "d9e45c7a85440ded99cc65c3aed36d5843c08e705728d8fd0a90df0932feacbb"), looks := false }, kinds := [], alts := [], laidByText := true, laidKinds := [.data, .data, .data], laidTests := true, laidLooks := .later }
def LoadStaysCardSaid : Prop := Claim7.holds Tryz.pinned (.plain (OpenSpec.ofChange loadStaysSpec)) loadStaysCard

/-- THE TIED CARD OF 'tammylaw09.LoadTwo'. -/
def loadTwoCard : Claim7 := { stood := { row := loadTwoRow, standIns := [], harness := (true, "d9e45c7a85440ded99cc65c3aed36d5843c08e705728d8fd0a90df0932feacbb"), looks := false }, kinds := [], alts := [], laidByText := true, laidKinds := [.data, .data, .data], laidTests := true, laidLooks := .later }
def LoadTwoCardSaid : Prop := Claim7.holds Tryz.pinned (.plain (OpenSpec.ofChange loadTwoSpec)) loadTwoCard

/-- THE TIED CARD OF 'tammylaw09.LoadNames'. -/
def loadNamesCard : Claim7 := { stood := { row := loadNamesRow, standIns := [], harness := (true, "d9e45c7a85440ded99cc65c3aed36d5843c08e705728d8fd0a90df0932feacbb"), looks := false }, kinds := [], alts := [], laidByText := true, laidKinds := [.data, .data, .data], laidTests := true, laidLooks := .later }
def LoadNamesCardSaid : Prop := Claim7.holds Tryz.pinned (.plain (OpenSpec.ofChange loadNamesSpec)) loadNamesCard

/-- THE TIED CARD OF 'tammylaw09.LoadTexts'. -/
def loadTextsCard : Claim7 := { stood := { row := loadTextsRow, standIns := [], harness := (true, "d9e45c7a85440ded99cc65c3aed36d5843c08e705728d8fd0a90df0932feacbb"), looks := false }, kinds := [], alts := [], laidByText := true, laidKinds := [.data, .data, .data], laidTests := true, laidLooks := .later }
def LoadTextsCardSaid : Prop := Claim7.holds Tryz.pinned (.plain (OpenSpec.ofChange loadTextsSpec)) loadTextsCard

/-- THE SECOND FORM's CARD OF 'tammylaw09.LoadTells'. -/
def loadTellsUptoCard : Claim7 := { stood := { row := loadTellsUptoRow, standIns := [], harness := (true, "d9e45c7a85440ded99cc65c3aed36d5843c08e705728d8fd0a90df0932feacbb"), looks := false }, kinds := [], alts := [], laidByText := true, laidKinds := [.data, .data, .data], laidTests := true, laidLooks := .later }
def LoadTellsUptoCardSaid : Prop := Claim7.holds Tryz.pinned (.plain (OpenSpec.upto loadTellsSpec)) loadTellsUptoCard

/-- THE SECOND FORM's CARD OF 'tammylaw09.LoadBack'. -/
def loadBackUptoCard : Claim7 := { stood := { row := loadBackUptoRow, standIns := [], harness := (true, "d9e45c7a85440ded99cc65c3aed36d5843c08e705728d8fd0a90df0932feacbb"), looks := false }, kinds := [], alts := [], laidByText := true, laidKinds := [.data, .data, .data], laidTests := true, laidLooks := .later }
def LoadBackUptoCardSaid : Prop := Claim7.holds Tryz.pinned (.plain (OpenSpec.upto loadBackSpec)) loadBackUptoCard

/-- THE SECOND FORM's CARD OF 'tammylaw09.LoadStays'. -/
def loadStaysUptoCard : Claim7 := { stood := { row := loadStaysUptoRow, standIns := [], harness := (true, "d9e45c7a85440ded99cc65c3aed36d5843c08e705728d8fd0a90df0932feacbb"), looks := false }, kinds := [], alts := [], laidByText := true, laidKinds := [.data, .data, .data], laidTests := true, laidLooks := .later }
def LoadStaysUptoCardSaid : Prop := Claim7.holds Tryz.pinned (.plain (OpenSpec.upto loadStaysSpec)) loadStaysUptoCard

/-- THE SECOND FORM's CARD OF 'tammylaw09.LoadTwo'. -/
def loadTwoUptoCard : Claim7 := { stood := { row := loadTwoUptoRow, standIns := [], harness := (true, "d9e45c7a85440ded99cc65c3aed36d5843c08e705728d8fd0a90df0932feacbb"), looks := false }, kinds := [], alts := [], laidByText := true, laidKinds := [.data, .data, .data], laidTests := true, laidLooks := .later }
def LoadTwoUptoCardSaid : Prop := Claim7.holds Tryz.pinned (.plain (OpenSpec.upto loadTwoSpec)) loadTwoUptoCard

/-- THE SECOND FORM's CARD OF 'tammylaw09.LoadNames'. -/
def loadNamesUptoCard : Claim7 := { stood := { row := loadNamesUptoRow, standIns := [], harness := (true, "d9e45c7a85440ded99cc65c3aed36d5843c08e705728d8fd0a90df0932feacbb"), looks := false }, kinds := [], alts := [], laidByText := true, laidKinds := [.data, .data, .data], laidTests := true, laidLooks := .later }
def LoadNamesUptoCardSaid : Prop := Claim7.holds Tryz.pinned (.plain (OpenSpec.upto loadNamesSpec)) loadNamesUptoCard

/-- THE SECOND FORM's CARD OF 'tammylaw09.LoadTexts'. -/
def loadTextsUptoCard : Claim7 := { stood := { row := loadTextsUptoRow, standIns := [], harness := (true, "d9e45c7a85440ded99cc65c3aed36d5843c08e705728d8fd0a90df0932feacbb"), looks := false }, kinds := [], alts := [], laidByText := true, laidKinds := [.data, .data, .data], laidTests := true, laidLooks := .later }
def LoadTextsUptoCardSaid : Prop := Claim7.holds Tryz.pinned (.plain (OpenSpec.upto loadTextsSpec)) loadTextsUptoCard
end Rows
end Go.Proofs.YteobadljolkdcaaGreatDoor
