/-
  DERIVED. GIVEN WITH THE SEED: THE CARDS: each row of YtllanbmpacgigaaGreatDoorRows.lean that lists a variable, with what it lists TIED to the program's text (the seventh form; the later family's looks); each row that meets fmt, with fmt's text TOLD by the authors' own Lean function (tested against real Go, not proved from fmt's source: count such statements apart). THE CARD IS WHAT COUNTS. Prove the row's statement (the work); the ties are given (YtllanbmpacgigaaGreatDoorTie.lean); close each card by the builder's one call (the guide's Derived/Test/ToyasCard.lean, 'card_holds'). Laid BY PROGRAM, IN A SANDBOX (cutbox-door.mjs). By AI agents, Wed Nov 11 2026. No macro, syntax, notation, axiom, sorry.
-/
import Derived.Test.YtllanbmpacgigaaGreatDoorRows
import GoSem.ClaimSeven
namespace Go.Proofs.YtllanbmpacgigaaGreatDoor
namespace Rows

/-- THE TIED CARD OF 'quillpenlaw30.LinesPlay'. -/
def linesPlayCard : Claim7 := { stood := { row := linesPlayRow, standIns := [], harness := (true, "7b5cd880a4e576344aefb646a3c189c04094caf56d7fc712c9b74a26eccc1d40"), looks := true }, kinds := [], alts := [], laidByText := true, laidKinds := [.data, .data, .data, .sentinel, .sentinel], laidTests := true, laidLooks := .later }
def LinesPlayCardSaid : Prop := Claim7.holds Tryz.pinned (.plain (OpenSpec.ofChange linesPlaySpec)) linesPlayCard

/-- THE TIED CARD OF 'quillpenlaw30.LinesAsk'. -/
def linesAskCard : Claim7 := { stood := { row := linesAskRow, standIns := [], harness := (true, "7b5cd880a4e576344aefb646a3c189c04094caf56d7fc712c9b74a26eccc1d40"), looks := true }, kinds := [], alts := [], laidByText := true, laidKinds := [.data, .data, .data, .sentinel, .sentinel], laidTests := true, laidLooks := .later }
def LinesAskCardSaid : Prop := Claim7.holds Tryz.pinned (.plain (OpenSpec.ofChange linesAskSpec)) linesAskCard

/-- THE TIED CARD OF 'quillpenlaw30.LinesSpelt'. -/
def linesSpeltCard : Claim7 := { stood := { row := linesSpeltRow, standIns := [], harness := (true, "7b5cd880a4e576344aefb646a3c189c04094caf56d7fc712c9b74a26eccc1d40"), looks := true }, kinds := [], alts := [], laidByText := true, laidKinds := [.data, .data, .data, .sentinel, .sentinel], laidTests := true, laidLooks := .later }
def LinesSpeltCardSaid : Prop := Claim7.holds Tryz.pinned (.plain (OpenSpec.ofChange linesSpeltSpec)) linesSpeltCard

/-- THE TIED CARD OF 'quillpenlaw30.LinesPut'. -/
def linesPutCard : Claim7 := { stood := { row := linesPutRow, standIns := [], harness := (true, "7b5cd880a4e576344aefb646a3c189c04094caf56d7fc712c9b74a26eccc1d40"), looks := true }, kinds := [], alts := [], laidByText := true, laidKinds := [.data, .data, .data, .sentinel, .sentinel], laidTests := true, laidLooks := .later }
def LinesPutCardSaid : Prop := Claim7.holds Tryz.pinned (.plain (OpenSpec.ofChange linesPutSpec)) linesPutCard

/-- THE TIED CARD OF 'quillpentop.TopDesk'. -/
def topDeskCard : Claim7 := { stood := { row := topDeskRow, standIns := [], harness := (true, "7b5cd880a4e576344aefb646a3c189c04094caf56d7fc712c9b74a26eccc1d40"), looks := true }, kinds := [], alts := [], laidByText := true, laidKinds := [.data, .data, .data, .sentinel, .sentinel], laidTests := true, laidLooks := .later }
def TopDeskCardSaid : Prop := Claim7.holds Tryz.pinned (.plain (OpenSpec.ofChange topDeskSpec)) topDeskCard

/-- THE SECOND FORM's CARD OF 'quillpenlaw30.LinesPlay'. -/
def linesPlayUptoCard : Claim7 := { stood := { row := linesPlayUptoRow, standIns := [], harness := (true, "7b5cd880a4e576344aefb646a3c189c04094caf56d7fc712c9b74a26eccc1d40"), looks := true }, kinds := [], alts := [], laidByText := true, laidKinds := [.data, .data, .data, .sentinel, .sentinel], laidTests := true, laidLooks := .later }
def LinesPlayUptoCardSaid : Prop := Claim7.holds Tryz.pinned (.plain (OpenSpec.upto linesPlaySpec)) linesPlayUptoCard

/-- THE SECOND FORM's CARD OF 'quillpenlaw30.LinesAsk'. -/
def linesAskUptoCard : Claim7 := { stood := { row := linesAskUptoRow, standIns := [], harness := (true, "7b5cd880a4e576344aefb646a3c189c04094caf56d7fc712c9b74a26eccc1d40"), looks := true }, kinds := [], alts := [], laidByText := true, laidKinds := [.data, .data, .data, .sentinel, .sentinel], laidTests := true, laidLooks := .later }
def LinesAskUptoCardSaid : Prop := Claim7.holds Tryz.pinned (.plain (OpenSpec.upto linesAskSpec)) linesAskUptoCard

/-- THE SECOND FORM's CARD OF 'quillpenlaw30.LinesSpelt'. -/
def linesSpeltUptoCard : Claim7 := { stood := { row := linesSpeltUptoRow, standIns := [], harness := (true, "7b5cd880a4e576344aefb646a3c189c04094caf56d7fc712c9b74a26eccc1d40"), looks := true }, kinds := [], alts := [], laidByText := true, laidKinds := [.data, .data, .data, .sentinel, .sentinel], laidTests := true, laidLooks := .later }
def LinesSpeltUptoCardSaid : Prop := Claim7.holds Tryz.pinned (.plain (OpenSpec.upto linesSpeltSpec)) linesSpeltUptoCard

/-- THE SECOND FORM's CARD OF 'quillpenlaw30.LinesPut'. -/
def linesPutUptoCard : Claim7 := { stood := { row := linesPutUptoRow, standIns := [], harness := (true, "7b5cd880a4e576344aefb646a3c189c04094caf56d7fc712c9b74a26eccc1d40"), looks := true }, kinds := [], alts := [], laidByText := true, laidKinds := [.data, .data, .data, .sentinel, .sentinel], laidTests := true, laidLooks := .later }
def LinesPutUptoCardSaid : Prop := Claim7.holds Tryz.pinned (.plain (OpenSpec.upto linesPutSpec)) linesPutUptoCard

/-- THE SECOND FORM's CARD OF 'quillpentop.TopDesk'. -/
def topDeskUptoCard : Claim7 := { stood := { row := topDeskUptoRow, standIns := [], harness := (true, "7b5cd880a4e576344aefb646a3c189c04094caf56d7fc712c9b74a26eccc1d40"), looks := true }, kinds := [], alts := [], laidByText := true, laidKinds := [.data, .data, .data, .sentinel, .sentinel], laidTests := true, laidLooks := .later }
def TopDeskUptoCardSaid : Prop := Claim7.holds Tryz.pinned (.plain (OpenSpec.upto topDeskSpec)) topDeskUptoCard
end Rows
end Go.Proofs.YtllanbmpacgigaaGreatDoor
