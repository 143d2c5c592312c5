/- Texts of the proof, joined. -/
import Derived.Test.YtdikpaochhacmaauPa
import Derived.Test.YtdikpaochhacmaauMb
namespace Go.Proofs.Ytdikpaochhacmaa
set_option linter.unusedSimpArgs false
set_option linter.unusedVariables false
theorem takeD {α : Type} [Inhabited α] (l : List α) (k : Nat) (h : (k : Int) < l.length) : l.take (k + 1) = l.take k ++ [l.getD k default] := by
  have h' : k < l.length := by omega
  rw [List.take_succ_eq_append_getElem h']
  simp [h']
end Go.Proofs.Ytdikpaochhacmaa
