/- Texts of the proof, joined. -/
import Derived.Test.YtigifbjdmdcboaaqPa
import Derived.Test.YtigifbjdmdcboaaqMb
namespace Go.Proofs.Ytigifbjdmdcboaa
set_option linter.unusedSimpArgs false
set_option linter.unusedVariables false
theorem takeD {α : Type} [Inhabited α] (l : List α) (k : Nat) (h : (k : Int) < l.length) : l.take (k + 1) = l.take k ++ [l.getD k default] := by
  have h' : k < l.length := by omega
  rw [List.take_succ_eq_append_getElem h']
  simp [h']
theorem mapG {α β : Type} [Inhabited α] [Inhabited β] (f : α → β) (l : List α) (k : Nat) (h : (k : Int) < l.length) : (l.map f).getD k default = f (l.getD k default) := by
  have h' : k < l.length := by omega
  simp [h']
theorem mapT {α β : Type} [Inhabited α] [Inhabited β] (f : α → β) (l : List α) (k : Nat) (h : (k : Int) < l.length) : (l.map f).take (k + 1) = (l.map f).take k ++ [f (l.getD k default)] := by
  rw [takeD _ k (by simpa using h), mapG f l k h]
theorem getD_mem {α : Type} [Inhabited α] (l : List α) (k : Nat) (h : (k : Int) < l.length) : l.getD k default ∈ l := by
  have h' : k < l.length := by omega
  simp [h']
end Go.Proofs.Ytigifbjdmdcboaa
