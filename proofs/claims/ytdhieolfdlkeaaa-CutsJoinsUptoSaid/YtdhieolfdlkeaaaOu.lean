/- A slice of texts as an argument, opened, with what its bulk says of it. -/
import Derived.Test.YtdhieolfdlkeaaaRows
import Derived.Test.YtdhieolfdlkeaaaMc
namespace Go.Proofs.Ytdhieolfdlkeaaa
set_option linter.unusedSimpArgs false
set_option linter.unusedVariables false
open Go.RowKit
theorem bulk_flat {H : Type} {D : Nat → DataW H} {f : Nat → Str} : ∀ l : List Nat, (∀ i ∈ l, D i = .lit (.string (f i))) → (l.map f).flatten.length ≤ Rows.uptoBulkAll (l.map D)
  | [], _ => by simp [Rows.uptoBulkAll]
  | i :: l, h => by
    have ih := bulk_flat l fun j hj => h j (by simp [hj])
    have e := h i (by simp)
    simp only [List.map_cons, List.flatten_cons, List.length_append, Rows.uptoBulkAll, e, Rows.uptoBulk]
    omega
theorem open_rdS {P : Program} {t e : TypeId} {H : Type} {enc : TypeId × Value → H} {w : World} {base : Nat} {sp : Nat → Bool} {hd : Bool} {r : Reach} {b0 : Nat} {v : Value} {d : DataW H} {ps : List MemPlace}
    (ht : P.underlying t = some (.slice e)) (he : P.underlying e = some .string) (h1 : P.cellsOf e = 1) (hval : Value.okWide P w r b0 t v) (h : DataW.Trod enc P w base sp hd t v d ps) : ∃ xs : List Str, Rd w eS v xs ∧ xs.flatten.length ≤ Rows.uptoBulk d := by
  obtain ⟨fuel, h⟩ := h
  rcases Go.Deep.open_slice1 ht h1 h with ⟨hc, _⟩ | ⟨a, len, cap, m, n, V, D, Pl, hc, hb, hl, hm, hmm, hx, hall⟩
  · have := slice_val (d := d) (ps := ps) (enc := enc) (base := base) (sp := sp) (hd := hd) ht hval hc
    subst this
    exact ⟨[], ⟨none, 0, rfl, by simp, by simp, by simp, by simp⟩, by simp⟩
  · have := slice_val (d := d) (ps := ps) (enc := enc) (base := base) (sp := sp) (hd := hd) ht hval hc
    subst this
    have hlm : len ≤ m := by rw [hmm]; split <;> omega
    have hex : ∀ i, i < len → ∃ s : Str, V i = S s ∧ D i = .lit (.string s) := by
      intro i hi
      obtain ⟨_, h2⟩ := hall i (by omega)
      obtain ⟨s, e1, e2, _⟩ := DataW.trod_string he h2
      simp at e1 e2
      exact ⟨s.data.toList, by rw [e1]; exact S_eq s, e2.1⟩
    obtain ⟨f, hf⟩ := Go.Deep.choose_lt hex
    unfold maxLen at hm
    refine ⟨(List.range len).map f, ⟨some a, cap, by simp, by simp; omega, by simp; omega, ?_, fun h0 => ⟨a, rfl, ?_⟩⟩, ?_⟩
    · intro u hu
      obtain ⟨y, hy, hu⟩ := List.mem_flatMap.1 hu
      simp [eS] at hu
      subst hu
      exact one_s
    · intro j u hj
      have e1 : ((List.range len).map f).flatMap eS.f = (List.range len).map fun i => S (f i) := by
        induction List.range len with
        | nil => rfl
        | cons x l ih => rw [List.map_cons, List.flatMap_cons, ih]; rfl
      rw [e1] at hj
      have hjl : j < len := by
        rcases Nat.lt_or_ge j len with q | q
        · exact q
        · rw [List.getElem?_eq_none (by simpa using q)] at hj; cases hj
      have h5 := (hall j (by omega)).1
      rw [List.getElem?_map, List.getElem?_range hjl] at hj
      simp at hj
      rw [← hj, ← (hf j hjl).1]; exact h5
    · have e2 := congrArg Prod.fst hx
      simp only at e2
      rw [e2, Rows.uptoBulk]
      have := bulk_flat (D := D) (f := f) (List.range len) fun i hi => (hf i (List.mem_range.1 hi)).2
      omega
end Go.Proofs.Ytdhieolfdlkeaaa
