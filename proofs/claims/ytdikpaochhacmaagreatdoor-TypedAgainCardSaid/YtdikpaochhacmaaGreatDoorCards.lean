/-
  DERIVED. GIVEN WITH THE SEED: THE CARDS: each row of YtdikpaochhacmaaGreatDoorRows.lean that lists a variable, with what it lists TIED to the program's text (the seventh form; the later family's looks); each row that meets fmt, with fmt's text TOLD by the authors' own Lean function (tested against real Go, not proved from fmt's source: count such statements apart). THE CARD IS WHAT COUNTS. Prove the row's statement (the work); the ties are given (YtdikpaochhacmaaGreatDoorTie.lean); close each card by the builder's one call (the guide's Derived/Test/ToyasCard.lean, 'card_holds'). Laid BY PROGRAM, IN A SANDBOX (cutbox-door.mjs). By AI agents, Wed Nov 11 2026. No macro, syntax, notation, axiom, sorry.
-/
import Derived.Test.YtdikpaochhacmaaGreatDoorRows
import GoSem.ClaimSeven
namespace Go.Proofs.YtdikpaochhacmaaGreatDoor
namespace Rows

/-- THE TIED CARD OF 'quillpenlaw20.TypedReads'. -/
def typedReadsCard : Claim7 := { stood := { row := typedReadsRow, standIns := [], harness := (true, "78902fdac15350930a0c69149f8c3ad1b98df29170ea45bf6083f9e030ecd7f1"), looks := true }, kinds := [], alts := [], laidByText := true, laidKinds := [.data, .data, .data, .sentinel, .sentinel], laidTests := true, laidLooks := .later }
def TypedReadsCardSaid : Prop := Claim7.holds Tryz.pinned (.plain (OpenSpec.ofChange typedReadsSpec)) typedReadsCard

/-- THE TIED CARD OF 'quillpenlaw20.TypedRows'. -/
def typedRowsCard : Claim7 := { stood := { row := typedRowsRow, standIns := [], harness := (true, "78902fdac15350930a0c69149f8c3ad1b98df29170ea45bf6083f9e030ecd7f1"), looks := true }, kinds := [], alts := [], laidByText := true, laidKinds := [.data, .data, .data, .sentinel, .sentinel], laidTests := true, laidLooks := .later }
def TypedRowsCardSaid : Prop := Claim7.holds Tryz.pinned (.plain (OpenSpec.ofChange typedRowsSpec)) typedRowsCard

/-- THE TIED CARD OF 'quillpenlaw20.TypedAgain'. -/
def typedAgainCard : Claim7 := { stood := { row := typedAgainRow, standIns := [], harness := (true, "78902fdac15350930a0c69149f8c3ad1b98df29170ea45bf6083f9e030ecd7f1"), looks := true }, kinds := [], alts := [], laidByText := true, laidKinds := [.data, .data, .data, .sentinel, .sentinel], laidTests := true, laidLooks := .later }
def TypedAgainCardSaid : Prop := Claim7.holds Tryz.pinned (.plain (OpenSpec.ofChange typedAgainSpec)) typedAgainCard

/-- THE TIED CARD OF 'quillpenlaw20.TypedWrites'. -/
def typedWritesCard : Claim7 := { stood := { row := typedWritesRow, standIns := [], harness := (true, "78902fdac15350930a0c69149f8c3ad1b98df29170ea45bf6083f9e030ecd7f1"), looks := true }, kinds := [], alts := [], laidByText := true, laidKinds := [.data, .data, .data, .sentinel, .sentinel], laidTests := true, laidLooks := .later }
def TypedWritesCardSaid : Prop := Claim7.holds Tryz.pinned (.plain (OpenSpec.ofChange typedWritesSpec)) typedWritesCard

/-- THE SECOND FORM's CARD OF 'quillpenlaw20.TypedReads'. -/
def typedReadsUptoCard : Claim7 := { stood := { row := typedReadsUptoRow, standIns := [], harness := (true, "78902fdac15350930a0c69149f8c3ad1b98df29170ea45bf6083f9e030ecd7f1"), looks := true }, kinds := [], alts := [], laidByText := true, laidKinds := [.data, .data, .data, .sentinel, .sentinel], laidTests := true, laidLooks := .later }
def TypedReadsUptoCardSaid : Prop := Claim7.holds Tryz.pinned (.plain (OpenSpec.upto typedReadsSpec)) typedReadsUptoCard

/-- THE SECOND FORM's CARD OF 'quillpenlaw20.TypedRows'. -/
def typedRowsUptoCard : Claim7 := { stood := { row := typedRowsUptoRow, standIns := [], harness := (true, "78902fdac15350930a0c69149f8c3ad1b98df29170ea45bf6083f9e030ecd7f1"), looks := true }, kinds := [], alts := [], laidByText := true, laidKinds := [.data, .data, .data, .sentinel, .sentinel], laidTests := true, laidLooks := .later }
def TypedRowsUptoCardSaid : Prop := Claim7.holds Tryz.pinned (.plain (OpenSpec.upto typedRowsSpec)) typedRowsUptoCard

/-- THE SECOND FORM's CARD OF 'quillpenlaw20.TypedAgain'. -/
def typedAgainUptoCard : Claim7 := { stood := { row := typedAgainUptoRow, standIns := [], harness := (true, "78902fdac15350930a0c69149f8c3ad1b98df29170ea45bf6083f9e030ecd7f1"), looks := true }, kinds := [], alts := [], laidByText := true, laidKinds := [.data, .data, .data, .sentinel, .sentinel], laidTests := true, laidLooks := .later }
def TypedAgainUptoCardSaid : Prop := Claim7.holds Tryz.pinned (.plain (OpenSpec.upto typedAgainSpec)) typedAgainUptoCard

/-- THE SECOND FORM's CARD OF 'quillpenlaw20.TypedWrites'. -/
def typedWritesUptoCard : Claim7 := { stood := { row := typedWritesUptoRow, standIns := [], harness := (true, "78902fdac15350930a0c69149f8c3ad1b98df29170ea45bf6083f9e030ecd7f1"), looks := true }, kinds := [], alts := [], laidByText := true, laidKinds := [.data, .data, .data, .sentinel, .sentinel], laidTests := true, laidLooks := .later }
def TypedWritesUptoCardSaid : Prop := Claim7.holds Tryz.pinned (.plain (OpenSpec.upto typedWritesSpec)) typedWritesUptoCard
end Rows
end Go.Proofs.YtdikpaochhacmaaGreatDoor
