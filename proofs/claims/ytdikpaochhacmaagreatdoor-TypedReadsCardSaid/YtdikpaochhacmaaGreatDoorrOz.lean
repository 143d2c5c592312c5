/- Texts of the proof, joined. -/
import Derived.Test.YtdikpaochhacmaaGreatDoorrP20
import Derived.Test.YtdikpaochhacmaaGreatDoorrP15
namespace Go.Proofs.YtdikpaochhacmaaGreatDoor
set_option linter.unusedSimpArgs false
set_option linter.unusedVariables false
open Go.RowKit Go.WideShapes Go.ChangeShapes
theorem opens_cols {P : Program} {t ts ti tb : TypeId} (h : flatTs P t = some [ts, ti, tb]) (hs : P.underlying ts = some .string) (hi : P.underlying ti = some (.int .i64)) (hb : P.underlying tb = some .bool) :
    Opens P t eC (fun c => c.name.length ≤ 9223372036854775807 ∧ -9223372036854775808 ≤ c.kind ∧ c.kind ≤ 9223372036854775807) := by
  intro H enc w base sp hd fuel cs x hx
  obtain ⟨hl, hf⟩ := flat_trod h hx
  match cs, hl with
  | [a, b, c], _ =>
    obtain ⟨f0, y0, h0⟩ := hf 0 (by simp)
    obtain ⟨f1, y1, h1⟩ := hf 1 (by simp)
    obtain ⟨f2, y2, h2⟩ := hf 2 (by simp)
    obtain ⟨s, e0, g0, _⟩ := opens_str hs enc w base sp hd f0 _ y0 h0
    obtain ⟨n, e1, g1, _⟩ := opens_i64 hi enc w base sp hd f1 _ y1 h1
    obtain ⟨v, e2, _, _⟩ := opens_bool hb enc w base sp hd f2 _ y2 h2
    simp [eS, eI, eB] at e0 e1 e2
    subst e0; subst e1; subst e2
    refine ⟨⟨s, n, v⟩, rfl, ⟨g0, g1⟩, ?_⟩
    intro u hu
    simp at hu
    rcases hu with rfl | rfl | rfl
    · exact one_s
    · exact one_i
    · exact one_b
def eTx : Enc (Int × Str) := ⟨2, fun p => [I p.1, S p.2], fun _ => rfl⟩
theorem opens_txt {P : Program} {t ts ti : TypeId} (h : flatTs P t = some [ti, ts]) (hs : P.underlying ts = some .string) (hi : P.underlying ti = some (.int .i64)) :
    Opens P t eTx (fun p => (-9223372036854775808 ≤ p.1 ∧ p.1 ≤ 9223372036854775807) ∧ p.2.length ≤ 9223372036854775807) := by
  intro H enc w base sp hd fuel cs x hx
  obtain ⟨hl, hf⟩ := flat_trod h hx
  match cs, hl with
  | [a, b], _ =>
    obtain ⟨f0, y0, h0⟩ := hf 0 (by simp)
    obtain ⟨f1, y1, h1⟩ := hf 1 (by simp)
    obtain ⟨k, e0, g0, _⟩ := opens_i64 hi enc w base sp hd f0 _ y0 h0
    obtain ⟨s, e1, g1, _⟩ := opens_str hs enc w base sp hd f1 _ y1 h1
    simp [eS, eI] at e0 e1
    subst e0; subst e1
    refine ⟨⟨k, s⟩, rfl, ⟨g0, g1⟩, ?_⟩
    intro u hu
    simp at hu
    rcases hu with rfl | rfl
    · exact one_i
    · exact one_s
end Go.Proofs.YtdikpaochhacmaaGreatDoor
