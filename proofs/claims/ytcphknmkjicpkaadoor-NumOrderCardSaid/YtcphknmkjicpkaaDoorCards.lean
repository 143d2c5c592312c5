/-
  DERIVED. GIVEN WITH THE SEED: THE CARDS: each row of YtcphknmkjicpkaaDoorRows.lean that lists a variable, with what it lists TIED to the program's text (the seventh form; the later family's looks); each row that meets fmt, with fmt's text TOLD by the authors' own Lean function (tested against real Go, not proved from fmt's source: count such statements apart). THE CARD IS WHAT COUNTS. Prove the row's statement (the work); the ties are given (YtcphknmkjicpkaaDoorTie.lean); close each card by the builder's one call (the guide's Derived/Test/ToyasCard.lean, 'card_holds'). Laid BY PROGRAM, IN A SANDBOX (cutbox-door.mjs). By AI agents, Wed Nov 11 2026. No macro, syntax, notation, axiom, sorry.
-/
import Derived.Test.YtcphknmkjicpkaaDoorRows
import GoSem.ClaimSeven
namespace Go.Proofs.YtcphknmkjicpkaaDoor
namespace Rows

/-- THE TIED CARD OF 'quillpenlaw16.NumSums'. -/
def numSumsCard : Claim7 := { stood := { row := numSumsRow, standIns := [], harness := (true, "84e0ad3e81144078dbc3367784a16a0904502dd1548c9adc7a14f8b69b8835c4"), looks := true }, kinds := [], alts := [], laidByText := true, laidKinds := [.data, .data, .data, .sentinel, .sentinel], laidTests := true, laidLooks := .later }
def NumSumsCardSaid : Prop := Claim7.holds Tryd.pinned (.plain (OpenSpec.ofChange numSumsSpec)) numSumsCard

/-- THE TIED CARD OF 'quillpenlaw16.NumParses'. -/
def numParsesCard : Claim7 := { stood := { row := numParsesRow, standIns := [], harness := (true, "84e0ad3e81144078dbc3367784a16a0904502dd1548c9adc7a14f8b69b8835c4"), looks := true }, kinds := [], alts := [], laidByText := true, laidKinds := [.data, .data, .data, .sentinel, .sentinel], laidTests := true, laidLooks := .later }
def NumParsesCardSaid : Prop := Claim7.holds Tryd.pinned (.plain (OpenSpec.ofChange numParsesSpec)) numParsesCard

/-- THE TIED CARD OF 'quillpenlaw16.NumPrints'. -/
def numPrintsCard : Claim7 := { stood := { row := numPrintsRow, standIns := [], harness := (true, "84e0ad3e81144078dbc3367784a16a0904502dd1548c9adc7a14f8b69b8835c4"), looks := true }, kinds := [], alts := [], laidByText := true, laidKinds := [.data, .data, .data, .sentinel, .sentinel], laidTests := true, laidLooks := .later }
def NumPrintsCardSaid : Prop := Claim7.holds Tryd.pinned (.plain (OpenSpec.ofChange numPrintsSpec)) numPrintsCard

/-- THE TIED CARD OF 'quillpenlaw16.NumLess'. -/
def numLessCard : Claim7 := { stood := { row := numLessRow, standIns := [], harness := (true, "84e0ad3e81144078dbc3367784a16a0904502dd1548c9adc7a14f8b69b8835c4"), looks := true }, kinds := [], alts := [], laidByText := true, laidKinds := [.data, .data, .data, .sentinel, .sentinel], laidTests := true, laidLooks := .later }
def NumLessCardSaid : Prop := Claim7.holds Tryd.pinned (.plain (OpenSpec.ofChange numLessSpec)) numLessCard

/-- THE TIED CARD OF 'quillpenlaw16.NumOrder'. -/
def numOrderCard : Claim7 := { stood := { row := numOrderRow, standIns := [], harness := (true, "84e0ad3e81144078dbc3367784a16a0904502dd1548c9adc7a14f8b69b8835c4"), looks := true }, kinds := [], alts := [], laidByText := true, laidKinds := [.data, .data, .data, .sentinel, .sentinel], laidTests := true, laidLooks := .later }
def NumOrderCardSaid : Prop := Claim7.holds Tryd.pinned (.plain (OpenSpec.ofChange numOrderSpec)) numOrderCard

/-- THE SECOND FORM's CARD OF 'quillpenlaw16.NumSums'. -/
def numSumsUptoCard : Claim7 := { stood := { row := numSumsUptoRow, standIns := [], harness := (true, "84e0ad3e81144078dbc3367784a16a0904502dd1548c9adc7a14f8b69b8835c4"), looks := true }, kinds := [], alts := [], laidByText := true, laidKinds := [.data, .data, .data, .sentinel, .sentinel], laidTests := true, laidLooks := .later }
def NumSumsUptoCardSaid : Prop := Claim7.holds Tryd.pinned (.plain (OpenSpec.upto numSumsSpec)) numSumsUptoCard

/-- THE SECOND FORM's CARD OF 'quillpenlaw16.NumParses'. -/
def numParsesUptoCard : Claim7 := { stood := { row := numParsesUptoRow, standIns := [], harness := (true, "84e0ad3e81144078dbc3367784a16a0904502dd1548c9adc7a14f8b69b8835c4"), looks := true }, kinds := [], alts := [], laidByText := true, laidKinds := [.data, .data, .data, .sentinel, .sentinel], laidTests := true, laidLooks := .later }
def NumParsesUptoCardSaid : Prop := Claim7.holds Tryd.pinned (.plain (OpenSpec.upto numParsesSpec)) numParsesUptoCard

/-- THE SECOND FORM's CARD OF 'quillpenlaw16.NumPrints'. -/
def numPrintsUptoCard : Claim7 := { stood := { row := numPrintsUptoRow, standIns := [], harness := (true, "84e0ad3e81144078dbc3367784a16a0904502dd1548c9adc7a14f8b69b8835c4"), looks := true }, kinds := [], alts := [], laidByText := true, laidKinds := [.data, .data, .data, .sentinel, .sentinel], laidTests := true, laidLooks := .later }
def NumPrintsUptoCardSaid : Prop := Claim7.holds Tryd.pinned (.plain (OpenSpec.upto numPrintsSpec)) numPrintsUptoCard

/-- THE SECOND FORM's CARD OF 'quillpenlaw16.NumLess'. -/
def numLessUptoCard : Claim7 := { stood := { row := numLessUptoRow, standIns := [], harness := (true, "84e0ad3e81144078dbc3367784a16a0904502dd1548c9adc7a14f8b69b8835c4"), looks := true }, kinds := [], alts := [], laidByText := true, laidKinds := [.data, .data, .data, .sentinel, .sentinel], laidTests := true, laidLooks := .later }
def NumLessUptoCardSaid : Prop := Claim7.holds Tryd.pinned (.plain (OpenSpec.upto numLessSpec)) numLessUptoCard

/-- THE SECOND FORM's CARD OF 'quillpenlaw16.NumOrder'. -/
def numOrderUptoCard : Claim7 := { stood := { row := numOrderUptoRow, standIns := [], harness := (true, "84e0ad3e81144078dbc3367784a16a0904502dd1548c9adc7a14f8b69b8835c4"), looks := true }, kinds := [], alts := [], laidByText := true, laidKinds := [.data, .data, .data, .sentinel, .sentinel], laidTests := true, laidLooks := .later }
def NumOrderUptoCardSaid : Prop := Claim7.holds Tryd.pinned (.plain (OpenSpec.upto numOrderSpec)) numOrderUptoCard
end Rows
end Go.Proofs.YtcphknmkjicpkaaDoor
