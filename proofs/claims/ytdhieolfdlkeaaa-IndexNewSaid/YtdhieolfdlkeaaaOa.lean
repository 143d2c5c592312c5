/- Flat structs as arguments, opened. -/
import Derived.Test.YtdhieolfdlkeaaaW06
import Derived.Test.YtdhieolfdlkeaaaMc
namespace Go.Proofs.Ytdhieolfdlkeaaa
set_option linter.unusedSimpArgs false
set_option linter.unusedVariables false
open Go.RowKit
theorem open_agg {α : Type} {P : Program} {t : TypeId} {E : Enc α} {good : α → Prop} {H : Type} {enc : TypeId × Value → H} {w : World} {base : Nat} {sp : Nat → Bool} {hd : Bool} {v : Value} {d : DataW H} {ps : List MemPlace}
    (hE : Opens P t E good) (h2 : 2 ≤ E.sz) (h : DataW.Trod enc P w base sp hd t v d ps) : ∃ x, v = .agg (E.f x).toArray ∧ good x := by
  obtain ⟨fuel, h⟩ := h
  obtain ⟨x, hc, hg, _⟩ := hE enc w base sp hd fuel _ _ h
  refine ⟨x, ?_, hg⟩
  have hl : (E.f x).length = E.sz := E.len x
  cases v with
  | agg xs =>
    have : xs.toList = E.f x := hc
    rw [← this]
  | _ =>
    exfalso
    have h3 := congrArg List.length hc
    simp [Value.cells] at h3
    omega
def eDl : Enc Dl := ⟨3, fun d => [U d.dl, U d.q, I d.e], fun _ => rfl⟩
def eLm : Enc Lm := ⟨4, fun l => [I l.F, I l.N, I l.R, .bool l.U], fun _ => rfl⟩
def i64D (d : Dl) : Prop := byD d ∧ -9223372036854775808 ≤ d.e ∧ d.e ≤ 9223372036854775807
def i64L (l : Lm) : Prop := -9223372036854775808 ≤ l.F ∧ l.F ≤ 9223372036854775807 ∧ -9223372036854775808 ≤ l.N ∧ l.N ≤ 9223372036854775807 ∧ -9223372036854775808 ≤ l.R ∧ l.R ≤ 9223372036854775807
theorem opens_dl {P : Program} {t tu ti : TypeId} (h : flatTs P t = some [tu, tu, ti]) (hu : P.underlying tu = some (.int .u8)) (hi : P.underlying ti = some (.int .i64)) : Opens P t eDl i64D := by
  intro H enc w base sp hd fuel cs x hx
  obtain ⟨hl, hf⟩ := flat_trod h hx
  match cs, hl with
  | [a, b, c], _ =>
    obtain ⟨f0, y0, h0⟩ := hf 0 (by simp)
    obtain ⟨f1, y1, h1⟩ := hf 1 (by simp)
    obtain ⟨f2, y2, h2⟩ := hf 2 (by simp)
    obtain ⟨n0, e0, _, g0⟩ := DataW.trod_int hu h0
    obtain ⟨n1, e1, _, g1⟩ := DataW.trod_int hu h1
    obtain ⟨n2, e2, _, g2⟩ := DataW.trod_int hi h2
    have g0' : IntKind.u8.min ≤ n0 ∧ n0 ≤ IntKind.u8.max := by simpa [Lit.wf] using g0
    have g1' : IntKind.u8.min ≤ n1 ∧ n1 ≤ IntKind.u8.max := by simpa [Lit.wf] using g1
    have g2' : IntKind.i64.min ≤ n2 ∧ n2 ≤ IntKind.i64.max := by simpa [Lit.wf] using g2
    simp at e0 e1 e2
    subst e0; subst e1; subst e2
    refine ⟨⟨n0, n1, n2⟩, rfl, ⟨⟨g0'.1, g0'.2, g1'.1, g1'.2⟩, g2'.1, g2'.2⟩, ?_⟩
    intro u hu
    simp at hu
    rcases hu with rfl | rfl | rfl <;> exact one_i
theorem opens_lm {P : Program} {t ti tb : TypeId} (h : flatTs P t = some [ti, ti, ti, tb]) (hi : P.underlying ti = some (.int .i64)) (hb : P.underlying tb = some .bool) : Opens P t eLm i64L := by
  intro H enc w base sp hd fuel cs x hx
  obtain ⟨hl, hf⟩ := flat_trod h hx
  match cs, hl with
  | [a, b, c, e], _ =>
    obtain ⟨f0, y0, h0⟩ := hf 0 (by simp)
    obtain ⟨f1, y1, h1⟩ := hf 1 (by simp)
    obtain ⟨f2, y2, h2⟩ := hf 2 (by simp)
    obtain ⟨f3, y3, h3⟩ := hf 3 (by simp)
    obtain ⟨n0, e0, g0, _⟩ := opens_i64 hi enc w base sp hd f0 _ y0 h0
    obtain ⟨n1, e1, g1, _⟩ := opens_i64 hi enc w base sp hd f1 _ y1 h1
    obtain ⟨n2, e2, g2, _⟩ := opens_i64 hi enc w base sp hd f2 _ y2 h2
    obtain ⟨v, e3, _, _⟩ := opens_bool hb enc w base sp hd f3 _ y3 h3
    simp [eI, eB] at e0 e1 e2 e3
    subst e0; subst e1; subst e2; subst e3
    refine ⟨⟨n0, n1, n2, v⟩, rfl, ⟨g0.1, g0.2, g1.1, g1.2, g2.1, g2.2⟩, ?_⟩
    intro u hu
    simp at hu
    rcases hu with rfl | rfl | rfl | rfl
    · exact one_i
    · exact one_i
    · exact one_i
    · exact one_b
end Go.Proofs.Ytdhieolfdlkeaaa
