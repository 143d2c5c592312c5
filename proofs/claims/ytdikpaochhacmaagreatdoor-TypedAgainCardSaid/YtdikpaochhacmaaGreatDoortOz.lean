/- Texts of the proof, joined. -/
import Derived.Test.YtdikpaochhacmaaGreatDoortP20
import Derived.Test.YtdikpaochhacmaaGreatDoortP15
namespace Go.Proofs.YtdikpaochhacmaaGreatDoor
set_option linter.unusedSimpArgs false
set_option linter.unusedVariables false
open Go.RowKit Go.WideShapes Go.ChangeShapes
theorem opens_cols {P : Program} {t ts ti tb : TypeId} (h : flatTs P t = some [ts, ti, tb]) (hs : P.underlying ts = some .string) (hi : P.underlying ti = some (.int .i64)) (hb : P.underlying tb = some .bool) :
    Opens P t eC (fun c => c.name.length ≤ 9223372036854775807 ∧ -9223372036854775808 ≤ c.kind ∧ c.kind ≤ 9223372036854775807) := by
  intro H enc w base sp hd fuel cs x hx
  obtain ⟨hl, hf⟩ := flat_trod h hx
  match cs, hl with
  | [a, b, c], _ =>
    obtain ⟨f0, y0, h0⟩ := hf 0 (by simp)
    obtain ⟨f1, y1, h1⟩ := hf 1 (by simp)
    obtain ⟨f2, y2, h2⟩ := hf 2 (by simp)
    obtain ⟨s, e0, g0, _⟩ := opens_str hs enc w base sp hd f0 _ y0 h0
    obtain ⟨n, e1, g1, _⟩ := opens_i64 hi enc w base sp hd f1 _ y1 h1
    obtain ⟨v, e2, _, _⟩ := opens_bool hb enc w base sp hd f2 _ y2 h2
    simp [eS, eI, eB] at e0 e1 e2
    subst e0; subst e1; subst e2
    refine ⟨⟨s, n, v⟩, rfl, ⟨g0, g1⟩, ?_⟩
    intro u hu
    simp at hu
    rcases hu with rfl | rfl | rfl
    · exact one_s
    · exact one_i
    · exact one_b
theorem open_typed {P : Program} {t tl ti ts e : TypeId} {good : Col → Prop} {H : Type} {enc : TypeId × Value → H} {w : World} {base : Nat} {sp : Nat → Bool} {hd : Bool} {v : Value} {d : DataW H} {ps : List MemPlace}
    (h : flatTs P t = some [tl, ti, ts]) (hl : P.underlying tl = some (.slice e)) (hE : Opens P e eC good) (hsz : P.cellsOf e = eC.sz) (hi : P.underlying ti = some (.int .i64)) (hs : P.underlying ts = some .string) (hT : DataW.Trod enc P w base sp hd t v d ps) :
    ∃ v1 l k s, v = .agg #[v1, I k, S s] ∧ Rd w eC v1 l ∧ (∀ c ∈ l, good c) ∧ (-9223372036854775808 ≤ k ∧ k ≤ 9223372036854775807) ∧ s.length ≤ 9223372036854775807 := by
  obtain ⟨fuel, hx⟩ := hT
  obtain ⟨hlen, hf⟩ := flat_trod h hx
  obtain ⟨f0, y0, h0⟩ := hf 0 (by simp)
  obtain ⟨f1, y1, h1⟩ := hf 1 (by simp)
  obtain ⟨f2, y2, h2⟩ := hf 2 (by simp)
  clear hf hx
  generalize hcs : v.cells.toList = cs at *
  match cs, hlen with
  | [a, b, c], _ =>
    obtain ⟨v', xs, e0, g1, g2, _⟩ := cells_rd hl hE hsz (by decide) h0
    obtain ⟨k, e1, gk, _⟩ := opens_i64 hi enc w base sp hd f1 _ y1 h1
    obtain ⟨s, e2, gs, _⟩ := opens_str hs enc w base sp hd f2 _ y2 h2
    simp [eS, eI] at e0 e1 e2
    subst e0; subst e1; subst e2
    refine ⟨_, xs, k, s, ?_, g1, g2, gk, gs⟩
    cases v with
    | agg xs =>
      have e3 : xs.toList = [a, I k, S s] := hcs
      rw [← e3]
    | _ =>
      exfalso
      have h3 := congrArg List.length hcs
      simp [Value.cells] at h3
end Go.Proofs.YtdikpaochhacmaaGreatDoor
