/-
  DERIVED. GIVEN WITH THE SEED: THE CARDS: each row of YtilfcgnepgacpaaDoorRows.lean that lists a variable, with what it lists TIED to the program's text (the seventh form; the later family's looks); each row that meets fmt, with fmt's text TOLD by the authors' own Lean function (tested against real Go, not proved from fmt's source: count such statements apart). THE CARD IS WHAT COUNTS. Prove the row's statement (the work); the ties are given (YtilfcgnepgacpaaDoorTie.lean); close each card by the builder's one call (the guide's Derived/Test/ToyasCard.lean, 'card_holds'). Laid BY PROGRAM, IN A SANDBOX (cutbox-door.mjs). By AI agents, Wed Nov 11 2026. No macro, syntax, notation, axiom, sorry.
-/
import Derived.Test.YtilfcgnepgacpaaDoorRows
import GoSem.ClaimSeven
namespace Go.Proofs.YtilfcgnepgacpaaDoor
namespace Rows

/-- THE TIED CARD OF 'quillpenlaw17.CellUnlike'. -/
def cellUnlikeCard : Claim7 := { stood := { row := cellUnlikeRow, standIns := [], harness := (true, "f3f2ca6cb1e245abf56ffc612e9d43d05d90f86636e9ee4f59db39ca41940d46"), looks := true }, kinds := [], alts := [], laidByText := true, laidKinds := [.data, .data, .data], laidTests := true, laidLooks := .later }
def CellUnlikeCardSaid : Prop := Claim7.holds Tryd.pinned (.plain (OpenSpec.ofChange cellUnlikeSpec)) cellUnlikeCard

/-- THE TIED CARD OF 'quillpenlaw17.CellMakes'. -/
def cellMakesCard : Claim7 := { stood := { row := cellMakesRow, standIns := [], harness := (true, "f3f2ca6cb1e245abf56ffc612e9d43d05d90f86636e9ee4f59db39ca41940d46"), looks := true }, kinds := [], alts := [], laidByText := true, laidKinds := [.data, .data, .data], laidTests := true, laidLooks := .later }
def CellMakesCardSaid : Prop := Claim7.holds Tryd.pinned (.plain (OpenSpec.ofChange cellMakesSpec)) cellMakesCard

/-- THE TIED CARD OF 'quillpenlaw17.CellOrder'. -/
def cellOrderCard : Claim7 := { stood := { row := cellOrderRow, standIns := [], harness := (true, "f3f2ca6cb1e245abf56ffc612e9d43d05d90f86636e9ee4f59db39ca41940d46"), looks := true }, kinds := [], alts := [], laidByText := true, laidKinds := [.data, .data, .data], laidTests := true, laidLooks := .later }
def CellOrderCardSaid : Prop := Claim7.holds Tryd.pinned (.plain (OpenSpec.ofChange cellOrderSpec)) cellOrderCard

/-- THE TIED CARD OF 'quillpenlaw17.CellEncodes'. -/
def cellEncodesCard : Claim7 := { stood := { row := cellEncodesRow, standIns := [], harness := (true, "f3f2ca6cb1e245abf56ffc612e9d43d05d90f86636e9ee4f59db39ca41940d46"), looks := true }, kinds := [], alts := [], laidByText := true, laidKinds := [.data, .data, .data, .sentinel, .sentinel], laidTests := true, laidLooks := .later }
def CellEncodesCardSaid : Prop := Claim7.holds Tryd.pinned (.plain (OpenSpec.ofChange cellEncodesSpec)) cellEncodesCard

/-- THE TIED CARD OF 'quillpenlaw17.CellDecodes'. -/
def cellDecodesCard : Claim7 := { stood := { row := cellDecodesRow, standIns := [], harness := (true, "f3f2ca6cb1e245abf56ffc612e9d43d05d90f86636e9ee4f59db39ca41940d46"), looks := true }, kinds := [], alts := [], laidByText := true, laidKinds := [.data, .data, .data, .sentinel, .sentinel], laidTests := true, laidLooks := .later }
def CellDecodesCardSaid : Prop := Claim7.holds Tryd.pinned (.plain (OpenSpec.ofChange cellDecodesSpec)) cellDecodesCard

/-- THE SECOND FORM's CARD OF 'quillpenlaw17.CellUnlike'. -/
def cellUnlikeUptoCard : Claim7 := { stood := { row := cellUnlikeUptoRow, standIns := [], harness := (true, "f3f2ca6cb1e245abf56ffc612e9d43d05d90f86636e9ee4f59db39ca41940d46"), looks := true }, kinds := [], alts := [], laidByText := true, laidKinds := [.data, .data, .data], laidTests := true, laidLooks := .later }
def CellUnlikeUptoCardSaid : Prop := Claim7.holds Tryd.pinned (.plain (OpenSpec.upto cellUnlikeSpec)) cellUnlikeUptoCard

/-- THE SECOND FORM's CARD OF 'quillpenlaw17.CellMakes'. -/
def cellMakesUptoCard : Claim7 := { stood := { row := cellMakesUptoRow, standIns := [], harness := (true, "f3f2ca6cb1e245abf56ffc612e9d43d05d90f86636e9ee4f59db39ca41940d46"), looks := true }, kinds := [], alts := [], laidByText := true, laidKinds := [.data, .data, .data], laidTests := true, laidLooks := .later }
def CellMakesUptoCardSaid : Prop := Claim7.holds Tryd.pinned (.plain (OpenSpec.upto cellMakesSpec)) cellMakesUptoCard

/-- THE SECOND FORM's CARD OF 'quillpenlaw17.CellOrder'. -/
def cellOrderUptoCard : Claim7 := { stood := { row := cellOrderUptoRow, standIns := [], harness := (true, "f3f2ca6cb1e245abf56ffc612e9d43d05d90f86636e9ee4f59db39ca41940d46"), looks := true }, kinds := [], alts := [], laidByText := true, laidKinds := [.data, .data, .data], laidTests := true, laidLooks := .later }
def CellOrderUptoCardSaid : Prop := Claim7.holds Tryd.pinned (.plain (OpenSpec.upto cellOrderSpec)) cellOrderUptoCard

/-- THE SECOND FORM's CARD OF 'quillpenlaw17.CellEncodes'. -/
def cellEncodesUptoCard : Claim7 := { stood := { row := cellEncodesUptoRow, standIns := [], harness := (true, "f3f2ca6cb1e245abf56ffc612e9d43d05d90f86636e9ee4f59db39ca41940d46"), looks := true }, kinds := [], alts := [], laidByText := true, laidKinds := [.data, .data, .data, .sentinel, .sentinel], laidTests := true, laidLooks := .later }
def CellEncodesUptoCardSaid : Prop := Claim7.holds Tryd.pinned (.plain (OpenSpec.upto cellEncodesSpec)) cellEncodesUptoCard

/-- THE SECOND FORM's CARD OF 'quillpenlaw17.CellDecodes'. -/
def cellDecodesUptoCard : Claim7 := { stood := { row := cellDecodesUptoRow, standIns := [], harness := (true, "f3f2ca6cb1e245abf56ffc612e9d43d05d90f86636e9ee4f59db39ca41940d46"), looks := true }, kinds := [], alts := [], laidByText := true, laidKinds := [.data, .data, .data, .sentinel, .sentinel], laidTests := true, laidLooks := .later }
def CellDecodesUptoCardSaid : Prop := Claim7.holds Tryd.pinned (.plain (OpenSpec.upto cellDecodesSpec)) cellDecodesUptoCard
end Rows
end Go.Proofs.YtilfcgnepgacpaaDoor
