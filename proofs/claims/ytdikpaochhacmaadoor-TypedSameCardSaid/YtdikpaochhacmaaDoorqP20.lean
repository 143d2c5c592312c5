/- Texts of the proof, joined. -/
import Derived.Test.YtdikpaochhacmaaDoorqPa
import Derived.Test.YtdikpaochhacmaaDoorqMc
namespace Go.Proofs.YtdikpaochhacmaaDoor
set_option linter.unusedSimpArgs false
set_option linter.unusedVariables false
open Go.RowKit
def eVal : Enc Val := ⟨4, fun v => [I v.kind, S v.s, I v.n, .bool v.b], fun _ => rfl⟩
def eRv : Enc Val := ⟨4, fun v => [I v.kind, S v.s, I v.n, I (if v.b = true then 1 else 0)], fun _ => rfl⟩
instance : EncSz eVal 4 := ⟨rfl⟩
instance : EncSz eRv 4 := ⟨rfl⟩
theorem eVal_f (v : Val) : eVal.f v = [I v.kind, S v.s, I v.n, .bool v.b] := rfl
theorem eRv_f (v : Val) : eRv.f v = [I v.kind, S v.s, I v.n, I (if v.b = true then 1 else 0)] := rfl
attribute [push_cast] eVal_f eRv_f
instance : DecidableEq Val := fun a b => if h : a.kind = b.kind ∧ a.s = b.s ∧ a.n = b.n ∧ a.b = b.b then isTrue (val_ext h.1 h.2.1 h.2.2.1 h.2.2.2) else isFalse fun e => h (by rw [e]; exact ⟨rfl, rfl, rfl, rfl⟩)
theorem row_step {α : Type} [Inhabited α] (a b : List α) (k : Nat) (h1 : k < a.length) (h2 : k < b.length) (e : a.take k = b.take k) (h : a.getD k default = b.getD k default) : a.take (k + 1) = b.take (k + 1) := by
  rw [List.take_succ_eq_append_getElem h1, List.take_succ_eq_append_getElem h2, e]
  simp only [List.getD_eq_getElem?_getD, List.getElem?_eq_getElem h1, List.getElem?_eq_getElem h2, Option.getD_some] at h
  rw [h]
theorem val_eq (a b : Val) : a = b ↔ a.kind = b.kind ∧ a.s = b.s ∧ a.n = b.n ∧ a.b = b.b := ⟨fun e => by rw [e]; exact ⟨rfl, rfl, rfl, rfl⟩, fun h => val_ext h.1 h.2.1 h.2.2.1 h.2.2.2⟩
theorem rv_eq (a b : Bool) : (if a = true then (1 : Int) else 0) = (if b = true then 1 else 0) ↔ a = b := by cases a <;> cases b <;> simp
theorem rval_eq {a b : Val} (h : a.kind = b.kind ∧ a.s = b.s ∧ a.n = b.n ∧ (if a.b = true then (1 : Int) else 0) = (if b.b = true then 1 else 0)) : a = b := val_ext h.1 h.2.1 h.2.2.1 ((rv_eq _ _).1 h.2.2.2)
end Go.Proofs.YtdikpaochhacmaaDoor
namespace Go.Proofs.YtdikpaochhacmaaDoor
set_option linter.unusedSimpArgs false
set_option linter.unusedVariables false
open Go.RowKit Go.WideShapes Go.ChangeShapes
theorem rdT_of {α : Type} {E : Enc α} {w : World} {v : Value} {t : List (List α)} (h : RdN w E v t) : RdT w E v t := by
  obtain ⟨vs, h1, h2, h3⟩ := h
  exact ⟨vs, h1, h2, fun i hi => h3 i (by omega)⟩
theorem opens_vals {P : Program} {t ts ti tn tb : TypeId} (h : flatTs P t = some [ti, ts, tn, tb]) (hs : P.underlying ts = some .string) (hi : P.underlying ti = some (.int .i64)) (hn : P.underlying tn = some (.int .i64)) (hb : P.underlying tb = some .bool) :
    Opens P t eVal (fun v => v.s.length ≤ 9223372036854775807 ∧ -9223372036854775808 ≤ v.n ∧ v.n ≤ 9223372036854775807) := by
  intro H enc w base sp hd fuel cs x hx
  obtain ⟨hl, hf⟩ := flat_trod h hx
  match cs, hl with
  | [a, b, c, d], _ =>
    obtain ⟨f0, y0, h0⟩ := hf 0 (by simp)
    obtain ⟨f1, y1, h1⟩ := hf 1 (by simp)
    obtain ⟨f2, y2, h2⟩ := hf 2 (by simp)
    obtain ⟨f3, y3, h3⟩ := hf 3 (by simp)
    obtain ⟨k, e0, g0, _⟩ := opens_i64 hi enc w base sp hd f0 _ y0 h0
    obtain ⟨s, e1, g1, _⟩ := opens_str hs enc w base sp hd f1 _ y1 h1
    obtain ⟨n, e2, g2, _⟩ := opens_i64 hn enc w base sp hd f2 _ y2 h2
    obtain ⟨v, e3, _, _⟩ := opens_bool hb enc w base sp hd f3 _ y3 h3
    simp [eS, eI, eB] at e0 e1 e2 e3
    subst e0; subst e1; subst e2; subst e3
    refine ⟨⟨k, s, n, v⟩, rfl, ⟨g1, g2⟩, ?_⟩
    intro u hu
    simp at hu
    rcases hu with rfl | rfl | rfl | rfl
    · exact one_i
    · exact one_s
    · exact one_i
    · exact one_b
end Go.Proofs.YtdikpaochhacmaaDoor
