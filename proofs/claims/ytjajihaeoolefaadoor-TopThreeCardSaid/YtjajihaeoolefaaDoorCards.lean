/-
  DERIVED. GIVEN WITH THE SEED: THE CARDS: each row of YtjajihaeoolefaaDoorRows.lean that lists a variable, with what it lists TIED to the program's text (the seventh form; the later family's looks); each row that meets fmt, with fmt's text TOLD by the authors' own Lean function (tested against real Go, not proved from fmt's source: count such statements apart). THE CARD IS WHAT COUNTS. Prove the row's statement (the work); the ties are given (YtjajihaeoolefaaDoorTie.lean); close each card by the builder's one call (the guide's Derived/Test/ToyasCard.lean, 'card_holds'). Laid BY PROGRAM, IN A SANDBOX (cutbox-door.mjs). By AI agents, Wed Nov 11 2026. No macro, syntax, notation, axiom, sorry.
-/
import Derived.Test.YtjajihaeoolefaaDoorRows
import GoSem.ClaimSeven
namespace Go.Proofs.YtjajihaeoolefaaDoor
namespace Rows

/-- THE TIED CARD OF 'quillpentop.TopUndo'. -/
def topUndoCard : Claim7 := { stood := { row := topUndoRow, standIns := [], harness := (true, "11d80ac67352cd17f9ad2d4571a0c785a77eb3ee563f14e9cc23ece46862c49f"), looks := false }, kinds := [], alts := [], laidByText := true, laidKinds := [.data, .data, .data], laidTests := true, laidLooks := .later }
def TopUndoCardSaid : Prop := Claim7.holds Tryd.pinned (.plain (OpenSpec.ofChange topUndoSpec)) topUndoCard

/-- THE TIED CARD OF 'quillpentop.TopThree'. -/
def topThreeCard : Claim7 := { stood := { row := topThreeRow, standIns := [], harness := (true, "11d80ac67352cd17f9ad2d4571a0c785a77eb3ee563f14e9cc23ece46862c49f"), looks := false }, kinds := [], alts := [], laidByText := true, laidKinds := [.data, .data, .data], laidTests := true, laidLooks := .later }
def TopThreeCardSaid : Prop := Claim7.holds Tryd.pinned (.plain (OpenSpec.ofChange topThreeSpec)) topThreeCard

/-- THE SECOND FORM's CARD OF 'quillpentop.TopUndo'. -/
def topUndoUptoCard : Claim7 := { stood := { row := topUndoUptoRow, standIns := [], harness := (true, "11d80ac67352cd17f9ad2d4571a0c785a77eb3ee563f14e9cc23ece46862c49f"), looks := false }, kinds := [], alts := [], laidByText := true, laidKinds := [.data, .data, .data], laidTests := true, laidLooks := .later }
def TopUndoUptoCardSaid : Prop := Claim7.holds Tryd.pinned (.plain (OpenSpec.upto topUndoSpec)) topUndoUptoCard

/-- THE SECOND FORM's CARD OF 'quillpentop.TopThree'. -/
def topThreeUptoCard : Claim7 := { stood := { row := topThreeUptoRow, standIns := [], harness := (true, "11d80ac67352cd17f9ad2d4571a0c785a77eb3ee563f14e9cc23ece46862c49f"), looks := false }, kinds := [], alts := [], laidByText := true, laidKinds := [.data, .data, .data], laidTests := true, laidLooks := .later }
def TopThreeUptoCardSaid : Prop := Claim7.holds Tryd.pinned (.plain (OpenSpec.upto topThreeSpec)) topThreeUptoCard
end Rows
end Go.Proofs.YtjajihaeoolefaaDoor
