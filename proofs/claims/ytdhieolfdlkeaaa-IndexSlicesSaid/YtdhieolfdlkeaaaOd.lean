/- A pair of numbers as an argument, opened. -/
import Derived.Test.YtdhieolfdlkeaaaOa
import Derived.OpenShut
namespace Go.Proofs.Ytdhieolfdlkeaaa
set_option linter.unusedSimpArgs false
set_option linter.unusedVariables false
open Go.RowKit
def eII : Enc (Int × Int) := ⟨2, fun x => [I x.1, I x.2], fun _ => rfl⟩
theorem opens_ii {P : Program} {t e : TypeId} (h : P.underlying t = some (.array 2 e)) (he : P.underlying e = some (.int .i64)) (hc : P.cellsOf t = 2) (hc1 : P.cellsOf e = 1) :
    Opens P t eII (fun x => (-9223372036854775808 ≤ x.1 ∧ x.1 ≤ 9223372036854775807) ∧ (-9223372036854775808 ≤ x.2 ∧ x.2 ≤ 9223372036854775807)) := by
  intro H enc w base sp hd fuel cs x hx
  obtain ⟨xs, m, _, _, hl, hn, hall⟩ := DataW.trod_array h hx
  rw [hc] at hl
  rw [hc1] at hall
  match cs, hl, xs, hn with
  | [a, b], _, [y0, y1], _ =>
    have h0 := hall 0 (by decide)
    have h1 := hall 1 (by decide)
    simp only [Nat.zero_mul, Nat.one_mul, List.drop_zero, List.take_succ_cons, List.take_zero, List.drop_succ_cons, List.getElem?_cons_zero, List.getElem?_cons_succ] at h0 h1
    obtain ⟨n0, e0, g0, _⟩ := opens_i64 he enc w base sp hd m _ y0 h0
    obtain ⟨n1, e1, g1, _⟩ := opens_i64 he enc w base sp hd m _ y1 h1
    simp [eI] at e0 e1
    subst e0; subst e1
    refine ⟨(n0, n1), rfl, ⟨g0, g1⟩, ?_⟩
    intro u hu
    simp [eII] at hu
    rcases hu with rfl | rfl <;> exact one_i
end Go.Proofs.Ytdhieolfdlkeaaa
