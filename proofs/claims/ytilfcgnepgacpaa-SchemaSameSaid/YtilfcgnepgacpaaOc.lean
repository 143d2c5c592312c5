/- Columns, opened. -/
import Derived.Test.YtilfcgnepgacpaaQ18
import Derived.Test.YtilfcgnepgacpaaNg
namespace Go.Proofs.Ytilfcgnepgacpaa
set_option linter.unusedSimpArgs false
set_option linter.unusedVariables false
open Go.RowKit
theorem len3 {l : List Value} (h : l.length = 3) : ∃ a b c, l = [a, b, c] := by
  match l, h with
  | [a, b, c], _ => exact ⟨a, b, c, rfl⟩
theorem opens_col {P : Program} {t ts ti tb : TypeId} (h : flatTs P t = some [ts, ti, tb]) (hs : P.underlying ts = some .string) (hi : P.underlying ti = some (.int .i64)) (hb : P.underlying tb = some .bool) :
    Opens P t eC (fun c => c.name.length ≤ 9223372036854775807 ∧ -9223372036854775808 ≤ c.kind ∧ c.kind ≤ 9223372036854775807) := by
  intro H enc w base sp hd fuel cs x hx
  obtain ⟨hl, hf⟩ := flat_trod h hx
  obtain ⟨a, b, c, rfl⟩ := len3 hl
  obtain ⟨f0, y0, h0⟩ := hf 0 (by simp)
  obtain ⟨f1, y1, h1⟩ := hf 1 (by simp)
  obtain ⟨f2, y2, h2⟩ := hf 2 (by simp)
  obtain ⟨s, e0, g0, _⟩ := opens_str hs enc w base sp hd f0 _ y0 h0
  obtain ⟨n, e1, g1, _⟩ := opens_i64 hi enc w base sp hd f1 _ y1 h1
  obtain ⟨v, e2, _, _⟩ := opens_bool hb enc w base sp hd f2 _ y2 h2
  simp [eS, eI, eB] at e0 e1 e2
  subst e0; subst e1; subst e2
  refine ⟨⟨s, n, v⟩, rfl, ⟨g0, g1⟩, ?_⟩
  intro u hu
  simp at hu
  rcases hu with rfl | rfl | rfl
  · exact one_s
  · exact one_i
  · exact one_b
end Go.Proofs.Ytilfcgnepgacpaa
