/- The engine, part g: arguments, opened. -/
import Derived.Test.YtdhieolfdlkeaaaNf
import Derived.Test.YtdhieolfdlkeaaaMe9
import Derived.Deep.Slices
import Derived.ChangeArms
import Derived.Carry
namespace Go.Proofs.Ytdhieolfdlkeaaa
set_option linter.unusedSimpArgs false
set_option linter.unusedVariables false
open Go.RowKit Go.WideShapes Go.ChangeShapes

/-- What is read at a type is some element, as it lies in cells. -/
def Opens {α : Type} (P : Program) (t : TypeId) (E : Enc α) (good : α → Prop) : Prop :=
  ∀ {H : Type} (enc : TypeId × Value → H) (w : World) (base : Nat) (sp : Nat → Bool) (hd : Bool) (fuel : Nat) (cs : List Value) (x : DataW H × List MemPlace),
    DataW.trod enc P w base sp hd fuel t cs = some x → ∃ a, cs = E.f a ∧ good a ∧ ∀ u ∈ cs, One u
section
variable {P : Program} {t e : TypeId}
theorem opens_str (h : P.underlying t = some .string) : Opens P t eS (fun s => s.length ≤ 9223372036854775807) := by
  intro H enc w base sp hd fuel cs x hx
  obtain ⟨s, rfl, _, hs⟩ := DataW.trod_string h hx
  refine ⟨s.data.toList, by rw [S_eq]; rfl, len_wf hs, ?_⟩
  intro u hu
  simp at hu; subst hu; simp [One, Value.oneCell']
theorem opens_i64 (h : P.underlying t = some (.int .i64)) : Opens P t eI (fun n => -9223372036854775808 ≤ n ∧ n ≤ 9223372036854775807) := by
  intro H enc w base sp hd fuel cs x hx
  obtain ⟨n, rfl, _, hn⟩ := DataW.trod_int h hx
  have h2 : IntKind.i64.min ≤ n ∧ n ≤ IntKind.i64.max := by simpa [Lit.wf] using hn
  refine ⟨n, rfl, h2, ?_⟩
  intro u hu
  simp at hu; subst hu; simp [One, Value.oneCell']
theorem opens_bool (h : P.underlying t = some .bool) : Opens P t eB (fun _ => True) := by
  intro H enc w base sp hd fuel cs x hx
  obtain ⟨b, rfl, _⟩ := DataW.trod_bool h hx
  refine ⟨b, rfl, trivial, ?_⟩
  intro u hu
  simp at hu; subst hu; simp [One, Value.oneCell']
/-- A field's part of a struct's cells. -/
theorem field_trod {H : Type} {enc : TypeId × Value → H} {w : World} {base : Nat} {sp : Nat → Bool} {hd : Bool} {fuel : Nat} {cs : List Value} {x : DataW H × List MemPlace} {fs : Array Field} (ht : P.underlying t = some (.struct fs)) (hx : DataW.trod enc P w base sp hd fuel t cs = some x)
    (i : Nat) (f : Field) (hf : fs[i]? = some f) : ∃ fuel' y, DataW.trod enc P w base sp hd fuel' f.type ((cs.drop f.offset).take (P.cellsOf f.type)) = some y := by
  obtain ⟨xs, n, _, _, _, hl, hall⟩ := DataW.trod_struct ht hx
  have hi : i < xs.length := by
    rw [hl]
    exact (Array.getElem?_eq_some_iff.1 hf).1
  exact ⟨n, xs[i], by rw [hall i f hf, List.getElem?_eq_getElem hi]⟩
/-- A slice of elements that need no further memory. -/
theorem cells_rd {α : Type} {E : Enc α} {good : α → Prop} {H : Type} {enc : TypeId × Value → H} {w : World} {base : Nat} {sp : Nat → Bool} {hd : Bool} {fuel : Nat} {cs : List Value} {x : DataW H × List MemPlace} [Inhabited α]
    (ht : P.underlying t = some (.slice e)) (hE : Opens P e E good) (hsz : P.cellsOf e = E.sz) (hp : 0 < E.sz) (h : DataW.trod enc P w base sp hd fuel t cs = some x) :
    ∃ v xs, cs = [v] ∧ Rd w E v xs ∧ (∀ a ∈ xs, good a) ∧ (∃ p n c, v = .slice p n c) := by
  rcases Go.Deep.open_slice ht h with ⟨rfl, _⟩ | ⟨a, len, cap, m, n, D, Pl, rfl, hb, hl, hm, hmm, _, hall⟩
  · exact ⟨_, [], rfl, ⟨none, 0, rfl, by simp, by simp, by simp, by simp⟩, by simp, _, _, _, rfl⟩
  · have hlm : len ≤ m := by rw [hmm]; split <;> omega
    have hex : ∀ i, i < len → ∃ y : α, good y ∧ (∀ u ∈ E.f y, One u) ∧ ∀ j, j < E.sz → w.cell? ((a.add (i * E.sz)).add j) = (E.f y)[j]? := by
      intro i hi
      obtain ⟨cs', h1, h2⟩ := hall i (by omega)
      obtain ⟨y, rfl, hg, ho⟩ := hE enc w base sp hd n cs' _ h2
      refine ⟨y, hg, ho, fun j hj => ?_⟩
      rw [hsz] at h1
      exact (World.cells?_some h1).2.2 j hj
    obtain ⟨f, hf⟩ := Go.Deep.choose_lt hex
    let xs := (List.range len).map f
    have hxl : xs.length = len := by simp [xs]
    have hxi : ∀ i (hi : i < xs.length), xs[i] = f i := by intro i hi; simp [xs]
    unfold maxLen at hm
    refine ⟨_, xs, rfl, ⟨some a, cap, by rw [hxl], by omega, by omega, ?_, fun h0 => ⟨a, rfl, ?_⟩⟩, ?_, _, _, _, rfl⟩
    · intro u hu
      obtain ⟨y, hy, hu⟩ := List.mem_flatMap.1 hu
      obtain ⟨i, hi, rfl⟩ := List.mem_map.1 hy
      exact (hf i (List.mem_range.1 hi)).2.1 u hu
    · have hsp : a.spot = none := by
        have h1 := (hf 0 (by omega)).2.2 0 hp
        rw [List.getElem?_eq_getElem (by rw [E.len]; exact hp)] at h1
        have := cell_spot h1
        simpa [Addr.add] using this
      intro j u hj
      have hjl : j < len * E.sz := by
        rcases Nat.lt_or_ge j (len * E.sz) with q | q
        · exact q
        · rw [List.getElem?_eq_none (by rw [flat_len, hxl]; exact q)] at hj; cases hj
      have hd' : j / E.sz < len := Nat.div_lt_of_lt_mul (by rw [Nat.mul_comm]; exact hjl)
      have hm' : j % E.sz < E.sz := Nat.mod_lt _ hp
      have he : j = (j / E.sz) * E.sz + j % E.sz := by rw [Nat.mul_comm]; exact (Nat.div_add_mod j E.sz).symm
      have h2 := flat_at E xs (j / E.sz) (j % E.sz) (by omega) hm'
      rw [← he, hj, hxi] at h2
      have h3 := (hf (j / E.sz) hd').2.2 (j % E.sz) hm'
      rw [add_add _ _ _ hsp, ← he, ← h2] at h3
      exact h3
    · intro y hy
      obtain ⟨i, hi, rfl⟩ := List.mem_map.1 hy
      exact (hf i (List.mem_range.1 hi)).1
/-- A struct all of whose fields are one cell. -/
def flatTs (P : Program) (t : TypeId) : Option (List TypeId) :=
  match P.underlying t with
  | some (.struct fs) => if fs.toList.map (·.offset) = List.range fs.size ∧ fs.toList.all (fun f => P.cellsOf f.type == 1) = true ∧ P.cellsOf t = fs.size then some (fs.toList.map (·.type)) else none
  | _ => none
theorem flat_trod {H : Type} {enc : TypeId × Value → H} {w : World} {base : Nat} {sp : Nat → Bool} {hd : Bool} {fuel : Nat} {cs : List Value} {x : DataW H × List MemPlace} {ts : List TypeId} (h : flatTs P t = some ts) (hx : DataW.trod enc P w base sp hd fuel t cs = some x) :
    cs.length = ts.length ∧ ∀ i (hi : i < ts.length), ∃ fuel' y, DataW.trod enc P w base sp hd fuel' ts[i] [cs.getD i undef] = some y := by
  unfold flatTs at h
  split at h
  · rename_i fs hu
    split at h
    · rename_i hc
      simp at h; subst h
      obtain ⟨h1, h2, h3⟩ := hc
      obtain ⟨_, _, _, _, hlen, _, _⟩ := DataW.trod_struct hu hx
      have hl : cs.length = fs.size := by rw [hlen, h3]
      refine ⟨by simp [hl], fun i hi => ?_⟩
      have hi' : i < fs.size := by simpa using hi
      obtain ⟨fuel', y, hy⟩ := field_trod hu hx i fs[i] (Array.getElem?_eq_getElem hi')
      have ho : fs[i].offset = i := by
        have : (fs.toList.map (·.offset))[i]? = (List.range fs.size)[i]? := by rw [h1]
        rw [List.getElem?_map, List.getElem?_range hi'] at this
        simpa [hi'] using this
      have hc1 : P.cellsOf fs[i].type = 1 := by
        have := List.all_eq_true.1 h2 fs[i] (by simp)
        simpa using this
      rw [ho, hc1] at hy
      refine ⟨fuel', y, ?_⟩
      have he : (cs.drop i).take 1 = [cs.getD i undef] := by
        have hci : i < cs.length := by omega
        rw [List.drop_eq_getElem_cons hci, List.take_succ_cons, List.take_zero, List.getD_eq_getElem?_getD, List.getElem?_eq_getElem hci]
        rfl
      rw [he] at hy
      simpa using hy
    · simp at h
  · simp at h
theorem flat_eV (l : List Value) : l.flatMap eV.f = l := by
  induction l with
  | nil => rfl
  | cons x l ih => rw [List.flatMap_cons, ih]; rfl
theorem i64_wf {a : Int} (h : (Lit.int .i64 a).wf = true) : -9223372036854775808 ≤ a ∧ a ≤ 9223372036854775807 := by
  have h2 : IntKind.i64.min ≤ a ∧ a ≤ IntKind.i64.max := by simpa [Lit.wf] using h
  exact h2
/-- A slice's value is one cell. -/
theorem slice_val {H : Type} {enc : TypeId × Value → H} {w : World} {base : Nat} {sp : Nat → Bool} {hd : Bool} {r : Reach} {b0 : Nat} {v v' : Value} {d : DataW H} {ps : List MemPlace} (ht : P.underlying t = some (.slice e)) (hval : Value.okWide P w r b0 t v) (hc : v.cells.toList = [v']) : v = v' := by
  unfold Value.okWide at hval
  rw [ht] at hval
  simp only [Cell.okWide, ht, Cell.ok] at hval
  cases v <;> simp_all [Value.cells]
theorem open_rd {α : Type} {E : Enc α} {good : α → Prop} {H : Type} {enc : TypeId × Value → H} {w : World} {base : Nat} {sp : Nat → Bool} {hd : Bool} {r : Reach} {b0 : Nat} {v : Value} {d : DataW H} {ps : List MemPlace} [Inhabited α]
    (ht : P.underlying t = some (.slice e)) (hE : Opens P e E good) (hsz : P.cellsOf e = E.sz) (hp : 0 < E.sz) (hval : Value.okWide P w r b0 t v) (h : DataW.Trod enc P w base sp hd t v d ps) : ∃ xs, Rd w E v xs ∧ ∀ a ∈ xs, good a := by
  obtain ⟨fuel, h⟩ := h
  obtain ⟨v', xs, hc, h1, h2, _⟩ := cells_rd ht hE hsz hp h
  have := slice_val (d := d) (ps := ps) (enc := enc) (base := base) (sp := sp) (hd := hd) ht hval hc
  subst this
  exact ⟨xs, h1, h2⟩
/-- A slice of slices. -/
def RdN {α : Type} (w : World) (e : Enc α) (v : Value) (t : List (List α)) : Prop :=
  ∃ vs : List Value, Rd w eV v vs ∧ vs.length = t.length ∧ ∀ i : Nat, (i : Int) < t.length → Rd w e (vs.getD i default) (t.getD i default)
theorem opens_slot {α : Type} {E : Enc α} {good : α → Prop} {q : TypeId} (ht : P.underlying t = some (.slice e)) (hq : P.underlying e = some (.slice q)) (hE : Opens P q E good) (hsz : P.cellsOf q = E.sz) (hp : 0 < E.sz) (h1 : P.cellsOf e = 1) [Inhabited α]
    {H : Type} {enc : TypeId × Value → H} {w : World} {base : Nat} {sp : Nat → Bool} {hd : Bool} {r : Reach} {b0 : Nat} {v : Value} {d : DataW H} {ps : List MemPlace} (hval : Value.okWide P w r b0 t v) (h : DataW.Trod enc P w base sp hd t v d ps) :
    ∃ xss, RdN w E v xss ∧ ∀ xs ∈ xss, ∀ a ∈ xs, good a := by
  obtain ⟨fuel, h⟩ := h
  rcases Go.Deep.open_slice1 ht h1 h with ⟨hc, _⟩ | ⟨a, len, cap, m, n, V, D, Pl, hc, hb, hl, hm, hmm, _, hall⟩
  · have := slice_val (d := d) (ps := ps) (enc := enc) (base := base) (sp := sp) (hd := hd) ht hval hc
    subst this
    exact ⟨[], ⟨[], ⟨none, 0, rfl, by simp, by simp, by simp, by simp⟩, rfl, fun i hi => by simp at hi; omega⟩, by simp⟩
  · have := slice_val (d := d) (ps := ps) (enc := enc) (base := base) (sp := sp) (hd := hd) ht hval hc
    subst this
    have hlm : len ≤ m := by rw [hmm]; split <;> omega
    have hex : ∀ i, i < len → ∃ xs : List α, Rd w E (V i) xs ∧ (∀ a ∈ xs, good a) ∧ One (V i) := by
      intro i hi
      obtain ⟨_, h2⟩ := hall i (by omega)
      obtain ⟨v', xs, hv, h3, h4, p, n', c, rfl⟩ := cells_rd hq hE hsz hp h2
      simp at hv
      rw [hv]
      exact ⟨xs, h3, h4, by simp [One, Value.oneCell']⟩
    obtain ⟨f, hf⟩ := Go.Deep.choose_lt hex
    unfold maxLen at hm
    refine ⟨(List.range len).map f, ⟨(List.range len).map V, ⟨some a, cap, by simp, by simp; omega, by simp; omega, ?_, fun h0 => ⟨a, rfl, ?_⟩⟩, by simp, fun i hi => ?_⟩, ?_⟩
    · intro u hu
      obtain ⟨y, hy, hu⟩ := List.mem_flatMap.1 hu
      obtain ⟨i, hi, rfl⟩ := List.mem_map.1 hy
      simp [eV] at hu
      subst hu
      exact (hf i (List.mem_range.1 hi)).2.2
    · intro j u hj
      have e1 : ((List.range len).map V).flatMap eV.f = (List.range len).map V := flat_eV _
      rw [e1] at hj
      have hjl : j < len := by
        rcases Nat.lt_or_ge j len with q | q
        · exact q
        · rw [List.getElem?_eq_none (by simpa using q)] at hj; cases hj
      have h5 := (hall j (by omega)).1
      rw [List.getElem?_map, List.getElem?_range hjl] at hj
      simp at hj
      rw [← hj]; exact h5
    · simp at hi
      have h6 := (hf i (by omega)).1
      have hi' : i < len := by omega
      simpa [hi'] using h6
    · intro xs hxs
      obtain ⟨i, hi, rfl⟩ := List.mem_map.1 hxs
      exact (hf i (List.mem_range.1 hi)).2.1
end
end Go.Proofs.Ytdhieolfdlkeaaa
