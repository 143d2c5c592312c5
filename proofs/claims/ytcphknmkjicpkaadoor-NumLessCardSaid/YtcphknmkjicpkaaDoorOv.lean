/- Values and columns, opened; a struct as an argument. -/
import Derived.Test.YtcphknmkjicpkaaDoorY17
import Derived.Test.YtcphknmkjicpkaaDoorP19
import Derived.Test.YtcphknmkjicpkaaDoorNg
import Derived.LaidSub
import Derived.MakeChecks
import Derived.Lib.LaidTab
namespace Go.Proofs.YtcphknmkjicpkaaDoor
set_option linter.unusedSimpArgs false
set_option linter.unusedVariables false
open Go.RowKit Go.WideShapes Go.ChangeShapes
theorem opens_kol {P : Program} {t ts ti tb : TypeId} (h : flatTs P t = some [ts, ti, tb]) (hs : P.underlying ts = some .string) (hi : P.underlying ti = some (.int .i64)) (hb : P.underlying tb = some .bool) :
    Opens P t eC (fun c => c.name.length ≤ 9223372036854775807 ∧ -9223372036854775808 ≤ c.kind ∧ c.kind ≤ 9223372036854775807) := by
  intro H enc w base sp hd fuel cs x hx
  obtain ⟨hl, hf⟩ := flat_trod h hx
  match cs, hl with
  | [a, b, c], _ =>
    obtain ⟨f0, y0, h0⟩ := hf 0 (by simp)
    obtain ⟨f1, y1, h1⟩ := hf 1 (by simp)
    obtain ⟨f2, y2, h2⟩ := hf 2 (by simp)
    obtain ⟨s, e0, g0, _⟩ := opens_str hs enc w base sp hd f0 _ y0 h0
    obtain ⟨n, e1, g1, _⟩ := opens_i64 hi enc w base sp hd f1 _ y1 h1
    obtain ⟨v, e2, _, _⟩ := opens_bool hb enc w base sp hd f2 _ y2 h2
    simp [eS, eI, eB] at e0 e1 e2
    subst e0; subst e1; subst e2
    refine ⟨⟨s, n, v⟩, rfl, ⟨g0, g1⟩, ?_⟩
    intro u hu
    simp at hu
    rcases hu with rfl | rfl | rfl
    · exact one_s
    · exact one_i
    · exact one_b
theorem opens_val {P : Program} {t ts ti tn tb : TypeId} (h : flatTs P t = some [ti, ts, tn, tb]) (hs : P.underlying ts = some .string) (hi : P.underlying ti = some (.int .i64)) (hn : P.underlying tn = some (.int .i64)) (hb : P.underlying tb = some .bool) :
    Opens P t eW (fun v => v.s.length ≤ 9223372036854775807 ∧ i64M v.n) := by
  intro H enc w base sp hd fuel cs x hx
  obtain ⟨hl, hf⟩ := flat_trod h hx
  match cs, hl with
  | [a, b, c, d], _ =>
    obtain ⟨f0, y0, h0⟩ := hf 0 (by simp)
    obtain ⟨f1, y1, h1⟩ := hf 1 (by simp)
    obtain ⟨f2, y2, h2⟩ := hf 2 (by simp)
    obtain ⟨f3, y3, h3⟩ := hf 3 (by simp)
    obtain ⟨k, e0, g0, _⟩ := opens_i64 hi enc w base sp hd f0 _ y0 h0
    obtain ⟨s, e1, g1, _⟩ := opens_str hs enc w base sp hd f1 _ y1 h1
    obtain ⟨n, e2, g2, _⟩ := opens_i64 hn enc w base sp hd f2 _ y2 h2
    obtain ⟨v, e3, _, _⟩ := opens_bool hb enc w base sp hd f3 _ y3 h3
    simp [eS, eI, eB] at e0 e1 e2 e3
    subst e0; subst e1; subst e2; subst e3
    refine ⟨⟨k, s, n, v⟩, rfl, ⟨g1, g2⟩, ?_⟩
    intro u hu
    simp at hu
    rcases hu with rfl | rfl | rfl | rfl
    · exact one_i
    · exact one_s
    · exact one_i
    · exact one_b
theorem open_agg {α : Type} {P : Program} {t : TypeId} {E : Enc α} {good : α → Prop} {H : Type} {enc : TypeId × Value → H} {w : World} {base : Nat} {sp : Nat → Bool} {hd : Bool} {v : Value} {d : DataW H} {ps : List MemPlace}
    (hE : Opens P t E good) (h2 : 2 ≤ E.sz) (h : DataW.Trod enc P w base sp hd t v d ps) : ∃ x, v = .agg (E.f x).toArray ∧ good x := by
  obtain ⟨fuel, h⟩ := h
  obtain ⟨x, hc, hg, _⟩ := hE enc w base sp hd fuel _ _ h
  refine ⟨x, ?_, hg⟩
  have hl : (E.f x).length = E.sz := E.len x
  cases v with
  | agg xs =>
    have : xs.toList = E.f x := hc
    rw [← this]
  | _ =>
    exfalso
    have h3 := congrArg List.length hc
    simp [Value.cells] at h3
    omega
/-- What the listed variables give the walks. -/
theorem tab_of {W : World} {l : List (String × DataW Unit)} (hp : (l.all fun x => x.2.handleName?.isNone) = true) (hl : l.filter (fun x => x.1 == "internal/strconv.uint64pow10") = [("internal/strconv.uint64pow10", Lib.tabData .u64 Lib.pow10Tab)])
    (h : laidMetH Tryd.prog l W) : Tab W := by
  rw [MakeChecks.laidMetH_plain _ _ _ hp] at h
  have h2 := h.filter fun x => x.1 == "internal/strconv.uint64pow10"
  rw [hl] at h2
  exact Lib.tabIs_of_head tab_glob (show (Tryd.prog.globals[2]?).map (·.type) = some 70 by kernel_rfl) Tryd.underlying70 Tryd.underlying37 (by kernel_rfl) (by kernel_rfl) h2
end Go.Proofs.YtcphknmkjicpkaaDoor
