/-
  DERIVED. GIVEN WITH THE SEED: THE CARDS: each row of YtdikpaochhacmaaDoorRows.lean that lists a variable, with what it lists TIED to the program's text (the seventh form; the later family's looks); each row that meets fmt, with fmt's text TOLD by the authors' own Lean function (tested against real Go, not proved from fmt's source: count such statements apart). THE CARD IS WHAT COUNTS. Prove the row's statement (the work); the ties are given (YtdikpaochhacmaaDoorTie.lean); close each card by the builder's one call (the guide's Derived/Test/ToyasCard.lean, 'card_holds'). Laid BY PROGRAM, IN A SANDBOX (cutbox-door.mjs). By AI agents, Wed Nov 11 2026. No macro, syntax, notation, axiom, sorry.
-/
import Derived.Test.YtdikpaochhacmaaDoorRows
import GoSem.ClaimSeven
namespace Go.Proofs.YtdikpaochhacmaaDoor
namespace Rows

/-- THE TIED CARD OF 'quillpenlaw20.TypedSame'. -/
def typedSameCard : Claim7 := { stood := { row := typedSameRow, standIns := [], harness := (true, "cd3b12072643bca72ac97435e8240b66cf7e0b7eef76da8f476889264b747e9e"), looks := true }, kinds := [], alts := [], laidByText := true, laidKinds := [.data, .data, .data, .sentinel, .sentinel], laidTests := true, laidLooks := .later }
def TypedSameCardSaid : Prop := Claim7.holds Tryd.pinned (.plain (OpenSpec.ofChange typedSameSpec)) typedSameCard

/-- THE SECOND FORM's CARD OF 'quillpenlaw20.TypedSame'. -/
def typedSameUptoCard : Claim7 := { stood := { row := typedSameUptoRow, standIns := [], harness := (true, "cd3b12072643bca72ac97435e8240b66cf7e0b7eef76da8f476889264b747e9e"), looks := true }, kinds := [], alts := [], laidByText := true, laidKinds := [.data, .data, .data, .sentinel, .sentinel], laidTests := true, laidLooks := .later }
def TypedSameUptoCardSaid : Prop := Claim7.holds Tryd.pinned (.plain (OpenSpec.upto typedSameSpec)) typedSameUptoCard
end Rows
end Go.Proofs.YtdikpaochhacmaaDoor
