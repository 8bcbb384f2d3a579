/-
  DERIVED. GIVEN WITH THE SEED: THE CARDS: each row of YtpdhpjgdboillaaDoorRows.lean that lists a variable, with what it lists TIED to the program's text (the seventh form; the later family's looks); each row that meets fmt, with fmt's text TOLD by the authors' own Lean function (tested against real Go, not proved from fmt's source: count such statements apart). THE CARD IS WHAT COUNTS. Prove the row's statement (the work); the ties are given (YtpdhpjgdboillaaDoorTie.lean); close each card by the builder's one call (the guide's Derived/Test/ToyasCard.lean, 'card_holds'). Laid BY PROGRAM, IN A SANDBOX (cutbox-door.mjs). By AI agents, Wed Nov 11 2026. No macro, syntax, notation, axiom, sorry.
-/
import Derived.Test.YtpdhpjgdboillaaDoorRows
import GoSem.ClaimSeven
namespace Go.Proofs.YtpdhpjgdboillaaDoor
namespace Rows

/-- THE TIED CARD OF 'tammylaw01.SigAdds'. -/
def sigAddsCard : Claim7 := { stood := { row := sigAddsRow, standIns := [], harness := (true, "fde8a49b0976f1ac273ed0d01c3e4ab400aa84c7962d1e089fb0c683d7f9af15"), looks := false }, kinds := [], alts := [], laidByText := true, laidKinds := [.data, .pinned], laidTests := true, laidLooks := .later }
def SigAddsCardSaid : Prop := Claim7.holds Tryd.pinned (.plain (OpenSpec.ofChange sigAddsSpec)) sigAddsCard

/-- THE TIED CARD OF 'tammylaw01.SigStays'. -/
def sigStaysCard : Claim7 := { stood := { row := sigStaysRow, standIns := [], harness := (true, "fde8a49b0976f1ac273ed0d01c3e4ab400aa84c7962d1e089fb0c683d7f9af15"), looks := false }, kinds := [], alts := [], laidByText := true, laidKinds := [.data, .pinned], laidTests := true, laidLooks := .later }
def SigStaysCardSaid : Prop := Claim7.holds Tryd.pinned (.plain (OpenSpec.ofChange sigStaysSpec)) sigStaysCard

/-- THE TIED CARD OF 'tammylaw01.SigVaries'. -/
def sigVariesCard : Claim7 := { stood := { row := sigVariesRow, standIns := [], harness := (true, "fde8a49b0976f1ac273ed0d01c3e4ab400aa84c7962d1e089fb0c683d7f9af15"), looks := false }, kinds := [], alts := [], laidByText := true, laidKinds := [.data, .pinned], laidTests := true, laidLooks := .later }
def SigVariesCardSaid : Prop := Claim7.holds Tryd.pinned (.plain (OpenSpec.ofChange sigVariesSpec)) sigVariesCard

/-- THE TIED CARD OF 'tammylaw01.SigNames'. -/
def sigNamesCard : Claim7 := { stood := { row := sigNamesRow, standIns := [], harness := (true, "fde8a49b0976f1ac273ed0d01c3e4ab400aa84c7962d1e089fb0c683d7f9af15"), looks := false }, kinds := [], alts := [], laidByText := true, laidKinds := [.data, .pinned], laidTests := true, laidLooks := .later }
def SigNamesCardSaid : Prop := Claim7.holds Tryd.pinned (.plain (OpenSpec.ofChange sigNamesSpec)) sigNamesCard

/-- THE TIED CARD OF 'tammylaw01.SigSames'. -/
def sigSamesCard : Claim7 := { stood := { row := sigSamesRow, standIns := [], harness := (true, "fde8a49b0976f1ac273ed0d01c3e4ab400aa84c7962d1e089fb0c683d7f9af15"), looks := false }, kinds := [], alts := [], laidByText := true, laidKinds := [.data, .pinned], laidTests := true, laidLooks := .later }
def SigSamesCardSaid : Prop := Claim7.holds Tryd.pinned (.plain (OpenSpec.ofChange sigSamesSpec)) sigSamesCard

/-- THE SECOND FORM's CARD OF 'tammylaw01.SigAdds'. -/
def sigAddsUptoCard : Claim7 := { stood := { row := sigAddsUptoRow, standIns := [], harness := (true, "fde8a49b0976f1ac273ed0d01c3e4ab400aa84c7962d1e089fb0c683d7f9af15"), looks := false }, kinds := [], alts := [], laidByText := true, laidKinds := [.data, .pinned], laidTests := true, laidLooks := .later }
def SigAddsUptoCardSaid : Prop := Claim7.holds Tryd.pinned (.plain (OpenSpec.upto sigAddsSpec)) sigAddsUptoCard

/-- THE SECOND FORM's CARD OF 'tammylaw01.SigStays'. -/
def sigStaysUptoCard : Claim7 := { stood := { row := sigStaysUptoRow, standIns := [], harness := (true, "fde8a49b0976f1ac273ed0d01c3e4ab400aa84c7962d1e089fb0c683d7f9af15"), looks := false }, kinds := [], alts := [], laidByText := true, laidKinds := [.data, .pinned], laidTests := true, laidLooks := .later }
def SigStaysUptoCardSaid : Prop := Claim7.holds Tryd.pinned (.plain (OpenSpec.upto sigStaysSpec)) sigStaysUptoCard

/-- THE SECOND FORM's CARD OF 'tammylaw01.SigVaries'. -/
def sigVariesUptoCard : Claim7 := { stood := { row := sigVariesUptoRow, standIns := [], harness := (true, "fde8a49b0976f1ac273ed0d01c3e4ab400aa84c7962d1e089fb0c683d7f9af15"), looks := false }, kinds := [], alts := [], laidByText := true, laidKinds := [.data, .pinned], laidTests := true, laidLooks := .later }
def SigVariesUptoCardSaid : Prop := Claim7.holds Tryd.pinned (.plain (OpenSpec.upto sigVariesSpec)) sigVariesUptoCard

/-- THE SECOND FORM's CARD OF 'tammylaw01.SigNames'. -/
def sigNamesUptoCard : Claim7 := { stood := { row := sigNamesUptoRow, standIns := [], harness := (true, "fde8a49b0976f1ac273ed0d01c3e4ab400aa84c7962d1e089fb0c683d7f9af15"), looks := false }, kinds := [], alts := [], laidByText := true, laidKinds := [.data, .pinned], laidTests := true, laidLooks := .later }
def SigNamesUptoCardSaid : Prop := Claim7.holds Tryd.pinned (.plain (OpenSpec.upto sigNamesSpec)) sigNamesUptoCard

/-- THE SECOND FORM's CARD OF 'tammylaw01.SigSames'. -/
def sigSamesUptoCard : Claim7 := { stood := { row := sigSamesUptoRow, standIns := [], harness := (true, "fde8a49b0976f1ac273ed0d01c3e4ab400aa84c7962d1e089fb0c683d7f9af15"), looks := false }, kinds := [], alts := [], laidByText := true, laidKinds := [.data, .pinned], laidTests := true, laidLooks := .later }
def SigSamesUptoCardSaid : Prop := Claim7.holds Tryd.pinned (.plain (OpenSpec.upto sigSamesSpec)) sigSamesUptoCard
end Rows
end Go.Proofs.YtpdhpjgdboillaaDoor
