/- The engine, part c: what a call holds of its own: parts of memory that lie apart. -/
import Derived.Test.YtdhieolfdlkeaaaNb
namespace Go.Proofs.Ytdhieolfdlkeaaa
set_option linter.unusedSimpArgs false
set_option linter.unusedVariables false
open Go.RowKit

/-- A part of memory: what holds of it, and the blocks that it takes. -/
structure Chk where
  ok : World → (Nat → Prop) → Prop
  loc : ∀ {w w' : World} {F : Nat → Prop}, (∀ b, F b → b < w.heap.size ∧ w'.heap[b]? = w.heap[b]?) → ok w F → ok w' F

def SepL (w : World) (lo : Nat) : List Chk → (Nat → Prop) → Prop
  | [], _ => True
  | c :: L, B => ∃ F, c.ok w F ∧ (∀ b, F b → lo ≤ b ∧ b < w.heap.size ∧ ¬ B b) ∧ SepL w lo L (fun b => B b ∨ F b)
/-- From w0 to w nothing that was there has changed, and of what is new these parts are known. -/
structure Sep (w0 w : World) (L : List Chk) : Prop where
  x : Ext w0 w
  s : SepL w w0.heap.size L (fun _ => False)
inductive Ex (c : Chk) : List Chk → List Chk → Prop
  | h {R : List Chk} : Ex c (c :: R) R
  | t {d : Chk} {L R : List Chk} : Ex c L R → Ex c (d :: L) (d :: R)
inductive Up (c c' : Chk) : List Chk → List Chk → Prop
  | h {R : List Chk} : Up c c' (c :: R) (c' :: R)
  | t {d : Chk} {L R : List Chk} : Up c c' L R → Up c c' (d :: L) (d :: R)
inductive Sub : List Chk → List Chk → Prop
  | n {L : List Chk} : Sub [] L
  | c {c : Chk} {L R M : List Chk} : Ex c L R → Sub M R → Sub (c :: M) L
theorem Up.split {c c' : Chk} {L L' : List Chk} (h : Up c c' L L') : ∃ R, Ex c L R ∧ Ex c' L' R := by
  induction h with
  | h => exact ⟨_, .h, .h⟩
  | t _ ih => obtain ⟨R, h1, h2⟩ := ih; exact ⟨_, .t h1, .t h2⟩

section
variable {w w' w0 : World} {lo : Nat} {L L' R : List Chk} {c c' : Chk}
theorem SepL.mono : ∀ {L : List Chk} {B B' : Nat → Prop}, SepL w lo L B → (∀ b, B' b → B b) → SepL w lo L B'
  | [], _, _, _, _ => trivial
  | c :: L, B, B', ⟨F, h1, h2, h3⟩, hb => ⟨F, h1, fun b hf => ⟨(h2 b hf).1, (h2 b hf).2.1, fun hb' => (h2 b hf).2.2 (hb b hb')⟩, SepL.mono h3 fun b hh => hh.imp (hb b) id⟩
theorem SepL.far : ∀ {L : List Chk} {B : Nat → Prop}, SepL w lo L B → (∀ b, lo ≤ b → b < w.heap.size → ¬ B b → w'.heap[b]? = w.heap[b]?) → w.heap.size ≤ w'.heap.size → SepL w' lo L B
  | [], _, _, _, _ => trivial
  | c :: L, B, ⟨F, h1, h2, h3⟩, hb, hs =>
    ⟨F, c.loc (fun b hf => ⟨(h2 b hf).2.1, hb b (h2 b hf).1 (h2 b hf).2.1 (h2 b hf).2.2⟩) h1, fun b hf => ⟨(h2 b hf).1, by have := (h2 b hf).2.1; omega, (h2 b hf).2.2⟩, SepL.far h3 (fun b h4 h5 h6 => hb b h4 h5 fun hB => h6 (.inl hB)) hs⟩
theorem SepL.take (he : Ex c L R) : ∀ {B : Nat → Prop}, SepL w lo L B → ∃ F, c.ok w F ∧ (∀ b, F b → lo ≤ b ∧ b < w.heap.size ∧ ¬ B b) ∧ SepL w lo R (fun b => B b ∨ F b) := by
  induction he with
  | h => intro B h; exact h
  | t _ ih =>
    rintro B ⟨F, h1, h2, h3⟩
    obtain ⟨G, g1, g2, g3⟩ := ih h3
    refine ⟨G, g1, fun b hb => ⟨(g2 b hb).1, (g2 b hb).2.1, fun hB => (g2 b hb).2.2 (.inl hB)⟩, F, h1, fun b hb => ⟨(h2 b hb).1, (h2 b hb).2.1, fun hB => ?_⟩, SepL.mono g3 ?_⟩
    · rcases hB with hB | hB
      · exact (h2 b hb).2.2 hB
      · exact (g2 b hB).2.2 (.inr hb)
    · rintro b ((h | h) | h)
      · exact .inl (.inl h)
      · exact .inr h
      · exact .inl (.inr h)
theorem SepL.give (he : Ex c L R) : ∀ {B F : Nat → Prop}, c.ok w F → (∀ b, F b → lo ≤ b ∧ b < w.heap.size ∧ ¬ B b) → SepL w lo R (fun b => B b ∨ F b) → SepL w lo L B := by
  induction he with
  | h => intro B F h1 h2 h3; exact ⟨F, h1, h2, h3⟩
  | t _ ih =>
    rintro B F h1 h2 ⟨G, g1, g2, g3⟩
    refine ⟨G, g1, fun b hb => ⟨(g2 b hb).1, (g2 b hb).2.1, fun hB => (g2 b hb).2.2 (.inl hB)⟩, ?_⟩
    refine ih (F := F) h1 (fun b hb => ⟨(h2 b hb).1, (h2 b hb).2.1, fun hB => ?_⟩) (SepL.mono g3 ?_)
    · rcases hB with hB | hB
      · exact (h2 b hb).2.2 hB
      · exact (g2 b hB).2.2 (.inr hb)
    · rintro b ((h | h) | h)
      · exact .inl (.inl h)
      · exact .inr h
      · exact .inl (.inr h)
theorem Sep.start (w : World) : Sep w w [] := ⟨Ext.refl w, trivial⟩
theorem Sep.xt (h : Sep w0 w L) : Ext w0 w := h.1
theorem Sep.ext (h : Sep w0 w L) (hx : Ext w w') : Sep w0 w' L := ⟨h.1.trans hx, SepL.far h.2 (fun b _ h2 _ => hx.block b h2) hx.size⟩
theorem Sep.get (h : Sep w0 w L) (he : Ex c L R) : ∃ F, c.ok w F ∧ ∀ b, F b → w0.heap.size ≤ b ∧ b < w.heap.size := by
  obtain ⟨F, h1, h2, _⟩ := SepL.take he h.2
  exact ⟨F, h1, fun b hb => ⟨(h2 b hb).1, (h2 b hb).2.1⟩⟩
theorem Sep.drop (h : Sep w0 w L) (he : Ex c L R) : Sep w0 w R := by
  obtain ⟨F, h1, h2, h3⟩ := SepL.take he h.2
  exact ⟨h.1, SepL.mono h3 fun b hb => .inl hb⟩
theorem Sep.push (h : Sep w0 w L) (hx : Ext w w') {F : Nat → Prop} (hc : c.ok w' F) (hF : ∀ b, F b → w.heap.size ≤ b ∧ b < w'.heap.size) : Sep w0 w' (c :: L) := by
  have hs := h.1.size
  refine ⟨h.1.trans hx, F, hc, fun b hb => ⟨by have := hF b hb; omega, (hF b hb).2, id⟩, ?_⟩
  have hh : ∀ {L : List Chk} {B : Nat → Prop}, SepL w w0.heap.size L B → SepL w w0.heap.size L (fun b => B b ∨ F b) := by
    intro L
    induction L with
    | nil => intro _ _; trivial
    | cons d L ih =>
      rintro B ⟨G, g1, g2, g3⟩
      refine ⟨G, g1, fun b hb => ⟨(g2 b hb).1, (g2 b hb).2.1, fun hB => ?_⟩, SepL.mono (ih g3) ?_⟩
      · rcases hB with hB | hB
        · exact (g2 b hb).2.2 hB
        · have h5 := hF b hB; have h6 := (g2 b hb).2.1; omega
      · rintro b ((h | h) | h)
        · exact .inl (.inl h)
        · exact .inr h
        · exact .inl (.inr h)
  exact SepL.far (hh h.2) (fun b _ h2 _ => hx.block b h2) hx.size
/-- One part changes, and takes new blocks, if it likes. -/
theorem Sep.change (h : Sep w0 w L) (hu : Up c c' L L') (hs : w.heap.size ≤ w'.heap.size) (ho : w'.os = w.os) (ht : w'.tape = w.tape) (hp : w'.output = w.output)
    (hc : ∀ F, c.ok w F → (∀ b, F b → b < w.heap.size) → ∃ F', c'.ok w' F' ∧ (∀ b, F' b → b < w'.heap.size ∧ (F b ∨ w.heap.size ≤ b)) ∧ ∀ b, b < w.heap.size → ¬ F b → w'.heap[b]? = w.heap[b]?) : Sep w0 w' L' := by
  obtain ⟨R, e1, e2⟩ := hu.split
  obtain ⟨F, h1, h2, h3⟩ := SepL.take e1 h.2
  obtain ⟨F', f1, f2, f3⟩ := hc F h1 fun b hb => (h2 b hb).2.1
  have hs0 := h.1.size
  refine ⟨⟨ho.trans h.1.os, ht.trans h.1.tape, hp.trans h.1.output, Nat.le_trans h.1.size hs, fun b hb => ?_⟩, ?_⟩
  · rw [f3 b (by omega) fun hF => by have := (h2 b hF).1; omega]
    exact h.1.block b hb
  · refine SepL.give e2 f1 (fun b hb => ⟨?_, (f2 b hb).1, id⟩) ?_
    · rcases (f2 b hb).2 with hh | hh
      · exact (h2 b hh).1
      · omega
    · have g : ∀ {R : List Chk} {B : Nat → Prop}, SepL w w0.heap.size R (fun b => B b ∨ F b) → SepL w' w0.heap.size R (fun b => B b ∨ F' b) := by
        intro R
        induction R with
        | nil => intro _ _; trivial
        | cons d R ih =>
          rintro B ⟨G, g1, g2, g3⟩
          refine ⟨G, d.loc (fun b hb => ⟨(g2 b hb).2.1, f3 b (g2 b hb).2.1 fun hF => (g2 b hb).2.2 (.inr hF)⟩) g1, fun b hb => ⟨(g2 b hb).1, by have := (g2 b hb).2.1; omega, fun hB => ?_⟩, ?_⟩
          · rcases hB with hB | hB
            · exact (g2 b hb).2.2 (.inl hB)
            · rcases (f2 b hB).2 with hh | hh
              · exact (g2 b hb).2.2 (.inr hh)
              · have := (g2 b hb).2.1; omega
          · refine SepL.mono (ih (B := fun b => B b ∨ G b) (SepL.mono g3 ?_)) ?_
            · rintro b ((h | h) | h)
              · exact .inl (.inl h)
              · exact .inr h
              · exact .inl (.inr h)
            · rintro b ((h | h) | h)
              · exact .inl (.inl h)
              · exact .inr h
              · exact .inl (.inr h)
      exact g h3
theorem SepL.app : ∀ {L' : List Chk} {B : Nat → Prop}, SepL w' w.heap.size L' B → ∀ {lo : Nat} {L : List Chk}, lo ≤ w.heap.size → SepL w lo L B → Ext w w' → SepL w' lo (L' ++ L) B
  | [], B, _, lo, L, _, h, hx => SepL.far h (fun b _ h2 _ => hx.block b h2) hx.size
  | c :: L', B, ⟨F, h1, h2, h3⟩, lo, L, hlo, h, hx => by
    refine ⟨F, h1, fun b hb => ⟨by have := (h2 b hb).1; omega, (h2 b hb).2.1, (h2 b hb).2.2⟩, SepL.app h3 hlo ?_ hx⟩
    have hh : ∀ {L : List Chk} {B : Nat → Prop}, SepL w lo L B → SepL w lo L (fun b => B b ∨ F b) := by
      intro L
      induction L with
      | nil => intro _ _; trivial
      | cons d L ih =>
        rintro B ⟨G, g1, g2, g3⟩
        refine ⟨G, g1, fun b hb => ⟨(g2 b hb).1, (g2 b hb).2.1, fun hB => ?_⟩, SepL.mono (ih g3) ?_⟩
        · rcases hB with hB | hB
          · exact (g2 b hb).2.2 hB
          · have h5 := (h2 b hB).1; have h6 := (g2 b hb).2.1; omega
        · rintro b ((h | h) | h)
          · exact .inl (.inl h)
          · exact .inr h
          · exact .inl (.inr h)
    exact hh h
/-- What a callee has made comes on top. -/
theorem Sep.app (h : Sep w0 w L) (h' : Sep w w' L') : Sep w0 w' (L' ++ L) := ⟨h.1.trans h'.1, SepL.app h'.2 h.1.size h.2 h'.1⟩
theorem SepL.sub {M : List Chk} (hs : Sub M L) : ∀ {B : Nat → Prop}, SepL w lo L B → SepL w lo M B := by
  induction hs with
  | n => intro _ _; trivial
  | c he _ ih =>
    intro B h
    obtain ⟨F, h1, h2, h3⟩ := SepL.take he h
    exact ⟨F, h1, h2, ih h3⟩
theorem Sep.sub {M : List Chk} (h : Sep w0 w L) (hs : Sub M L) : Sep w0 w M := ⟨h.1, SepL.sub hs h.2⟩
theorem Rd.old {α : Type} {e : Enc α} {v : Value} {xs : List α} (h : Rd w0 e v xs) (hS : Sep w0 w L) : Rd w e v xs := h.ext hS.1
theorem Blk.old {g : Nat} {t : TypeId} {cs : List Value} (h : Blk w0 g t cs.toArray) (hS : Sep w0 w L) : Blk w g t cs.toArray := h.ext hS.1
end

/-! ### A box, and a slice of the call's own -/
def boxC (g : Nat) (t : TypeId) (cs : List Value) : Chk where
  ok w F := F g ∧ Blk w g t cs.toArray
  loc := fun hb ⟨h1, h2⟩ => ⟨h1, (hb g h1).2.trans h2⟩
def accC {α : Type} (v : Value) (t : TypeId) (e : Enc α) (xs : List α) : Chk where
  ok w F := w.ownsRow 0 t e.sz v xs.length (xs.flatMap e.f) ∧ (∀ g, v.ownBlock = some g → F g) ∧ (∀ u ∈ xs.flatMap e.f, One u) ∧ xs.length ≤ 9223372036854775807
  loc := by
    intro w w' F hb ⟨h1, h2, h3, h4⟩
    refine ⟨⟨h1.1, ?_⟩, h2, h3, h4⟩
    rcases h1.2 with h | ⟨g, cap, cur, hv, hg, hh, hr⟩
    · exact .inl h
    · exact .inr ⟨g, cap, cur, hv, hg, (hb g (h2 g (by rw [hv]; rfl))).2.trans hh, hr⟩
section
variable {w w' w0 : World} {L L' R : List Chk} {g : Nat} {t : TypeId} {cs : List Value} {v : Value}
theorem Sep.blk (h : Sep w0 w L) (he : Ex (boxC g t cs) L R) : Blk w g t cs.toArray := by
  obtain ⟨F, h1, _⟩ := h.get he
  exact h1.2
theorem own_rd {α : Type} {e : Enc α} {xs : List α} (h : w.ownsRow 0 t e.sz v xs.length (xs.flatMap e.f)) (h1 : ∀ u ∈ xs.flatMap e.f, One u) (h2 : xs.length ≤ 9223372036854775807) : Rd w e v xs := by
  rcases h.2 with ⟨hv, hn⟩ | ⟨g, cap, cur, hv, hg, hh, hc, _, _, _⟩
  · exact ⟨none, 0, by rw [hv, hn], by omega, h2, h1, fun h0 => by omega⟩
  · refine ⟨some ⟨g, 0, none⟩, cap, hv, hc, h2, h1, fun _ => ⟨_, rfl, fun j u hj => h.cells (g := g) (by rw [hv]; rfl) j u hj⟩⟩
theorem Sep.rd {α : Type} {e : Enc α} {xs : List α} (h : Sep w0 w L) (he : Ex (accC v t e xs) L R) : Rd w e v xs := by
  obtain ⟨F, ⟨h1, _, h3, h4⟩, _⟩ := h.get he
  exact own_rd h1 h3 h4
theorem Sep.accOne {α : Type} {e : Enc α} {xs : List α} (h : Sep w0 w L) (he : Ex (accC v t e xs) L R) : One v := (h.rd he).one
theorem alloc_size (w : World) (o : Obj) : (w.alloc o).heap.size = w.heap.size + 1 := by simp
theorem Sep.alloc (h : Sep w0 w L) (t : TypeId) (cs : List Value) : Sep w0 (w.alloc (.cells cs.toArray t)) (boxC w.heap.size t cs :: L) :=
  h.push ((Ext.refl w).alloc _) (F := fun b => b = w.heap.size) ⟨rfl, Blk.new w t cs.toArray⟩ (by intro b hb; subst hb; exact ⟨Nat.le_refl _, by simp⟩)
/-- A store into a box. -/
theorem stL_Blk {g o : Nat} : ∀ (l : List Value) (i : Nat) (w : World) (cs : List Value), Blk w g t cs.toArray → Blk (stL w ⟨g, o, none⟩ l i) g t (setL cs (o + i) l).toArray
  | [], i, w, cs, h => h
  | v :: l, i, w, cs, h => by
    have h1 := h.set_ (o + i) v
    rw [List.setIfInBounds_toArray] at h1
    simp only [stL, setL, addg]
    exact stL_Blk l (i + 1) _ _ h1
theorem stL_size {p : Addr} : ∀ (l : List Value) (i : Nat) (w : World), (stL w p l i).heap.size = w.heap.size ∧ (stL w p l i).os = w.os ∧ (stL w p l i).tape = w.tape ∧ (stL w p l i).output = w.output
  | [], _, _ => ⟨rfl, rfl, rfl, rfl⟩
  | v :: l, i, w => by
    obtain ⟨h1, h2, h3, h4⟩ := stL_size (p := p) l (i + 1) (w.setCell (p.add i) v)
    exact ⟨by rw [stL, h1]; simp [World.setCell], by rw [stL, h2]; rfl, by rw [stL, h3]; rfl, by rw [stL, h4]; rfl⟩
theorem stL_far' {g o : Nat} (j : Nat) (hj : j ≠ g) : ∀ (l : List Value) (i : Nat) (w : World), (stL w ⟨g, o, none⟩ l i).heap[j]? = w.heap[j]?
  | [], _, _ => rfl
  | v :: l, i, w => by
    rw [stL, stL_far' j hj l, addg]
    exact Below.heap_setCell w _ v j hj
theorem Sep.store (h : Sep w0 w L) {o : Nat} {l : List Value} (hu : Up (boxC g t cs) (boxC g t (setL cs o l)) L L') : Sep w0 (stL w ⟨g, o, none⟩ l 0) L' := by
  obtain ⟨s1, s2, s3, s4⟩ := stL_size (p := ⟨g, o, none⟩) l 0 w
  refine h.change hu (by omega) s2 s3 s4 ?_
  rintro F ⟨f1, f2⟩ hF
  refine ⟨F, ⟨f1, stL_Blk l 0 w cs f2⟩, fun b hb => ⟨by have := hF b hb; omega, .inl hb⟩, fun b _ hb => stL_far' b (fun e => hb (by rw [e]; exact f1)) l 0 w⟩
end
/-- A store, alone. -/
def StK (P : Program) (n : Nat) (p v : Value) (w : World) (d : Option Nat) (ρ : Fr) (next : Fr → World → Prop) : Prop := okSt w n p v ∧ next (updO ρ d undef) (stW w p v)
def AlcK (P : Program) (t : TypeId) (cs : List Value) (w : World) (d : Option Nat) (ρ : Fr) (next : Fr → World → Prop) : Prop := next (updO ρ d (.pointer (some ⟨w.heap.size, 0, none⟩))) (w.alloc (.cells cs.toArray t))
def BslK (P : Program) (t : TypeId) (cs : List Value) (n : Nat) (w : World) (d : Option Nat) (ρ : Fr) (next : Fr → World → Prop) : Prop := next (updO ρ d (.slice (some ⟨w.heap.size, 0, none⟩) n n)) (w.alloc (.cells cs.toArray t))
section
variable {P : Program} {K : Fr → World → Prop} {rest : List ML} {ρ : Fr} {w w0 : World} {d : Option Nat} {next : Fr → World → Prop} {L L' : List Chk} {g : Nat} {t : TypeId} {cs : List Value}
theorem O_stK (n : Nat) (x y : Operand) : O P K (⟨none, d, .st n x y⟩ :: rest) ρ w = StK P n (ev ρ x) (ev ρ y) w d ρ (O P K rest) := by rw [O_st]; rfl
theorem O_alcK (t : TypeId) (cs : List Value) : O P K (⟨none, d, .alc t cs⟩ :: rest) ρ w = AlcK P t cs w d ρ (O P K rest) := by rw [O_alc]; rfl
theorem O_bslK (t : TypeId) (zs : List Value) (n : Nat) (ps : List (Nat × Nat × Operand)) : O P K (⟨none, d, .bsl t zs n ps⟩ :: rest) ρ w = (okLay zs (evP ρ ps) ∧ BslK P t (layL zs (evP ρ ps)) n w d ρ (O P K rest)) := by rw [O_bsl]; rfl
theorem alcK (hS : Sep w0 w L) (k : ∀ g w', Sep w0 w' (boxC g t cs :: L) → next (updO ρ d (.pointer (some ⟨g, 0, none⟩))) w') : AlcK P t cs w d ρ next := k _ _ (hS.alloc t cs)
theorem bslK {n : Nat} (hS : Sep w0 w L) (k : ∀ g w', Sep w0 w' (boxC g t cs :: L) → next (updO ρ d (.slice (some ⟨g, 0, none⟩) n n)) w') : BslK P t cs n w d ρ next := k _ _ (hS.alloc t cs)
theorem boxK {v : Value} {l : List Value} (hS : Sep w0 w L) (hl : v.cells = l.toArray) (k : ∀ g w', Sep w0 w' (boxC g t l :: L) → next (updO ρ d (.pointer (some ⟨g, 0, none⟩))) w') : SemK P (Instr.box t v) w d ρ next := by
  refine ⟨.pointer (some ⟨w.heap.size, 0, none⟩), w.alloc (.cells l.toArray t), ?_, k _ _ (hS.alloc t l)⟩
  simp [Instr.box, newVar, newRow, hl]
theorem stK {n o : Nat} {v : Value} {l : List Value} (hS : Sep w0 w L) (hl : v.cells = l.toArray) (hu : Up (boxC g t cs) (boxC g t (setL cs o l)) L L') (hn : l.length = n) (ho : o + n ≤ cs.length) (h1 : ∀ u ∈ l, One u)
    (k : ∀ w', Sep w0 w' L' → next (updO ρ d undef) w') : StK P n (.pointer (some ⟨g, o, none⟩)) v w d ρ next := by
  obtain ⟨R, he, _⟩ := hu.split
  have hb := hS.blk he
  refine ⟨⟨by rw [hl]; simpa using hn, by rw [hl]; simpa [One] using h1, fun j hj => ?_⟩, ?_⟩
  · rw [addg, hb.cell, hb.frozen]
    exact ⟨by simp; omega, rfl⟩
  · simp only [stW, hl]
    exact k _ (hS.store hu)
theorem callK_pu {f : Nat} {args : List Value} {X : Value} (hS : Sep w0 w L) (h : Pu P f args.toArray w X) (k : ∀ w', Sep w0 w' L → next (updO ρ d X) w') : CallK P f args w d ρ next :=
  CallK.pu h fun w' hx => k w' (hS.ext hx)
theorem callK_of {f : Nat} {args : List Value} {V : Value → World → Prop} (h : Ret P f args.toArray w V) (k : ∀ v w', V v w' → next (updO ρ d v) w') : CallK P f args w d ρ next := CallK.of h k
theorem nil_own (w : World) (t : TypeId) {α : Type} (e : Enc α) : (accC (.slice none 0 0) t e []).ok w (fun _ => False) :=
  ⟨World.ownsRow_nil w 0 t e.sz, fun g h => by simp [Value.ownBlock] at h, fun u h => by simp at h, by simp⟩
/-- A nil slice may be counted in. -/
theorem Sep.nil {α : Type} (hS : Sep w0 w L) (t : TypeId) (e : Enc α) : Sep w0 w (accC (.slice none 0 0) t e [] :: L) := hS.push (Ext.refl w) (nil_own w t e) (fun _ h => h.elim)
end

/-! ### append -/
/-- What is known of a slice's type. -/
structure SlT (P : Program) (t e : TypeId) (sz bt : Nat) (zs : List Value) : Prop where
  u : P.underlying t = some (.slice e)
  i : ∃ i z, P.info? e = some i ∧ i.zero = some z ∧ i.size = sz ∧ i.bytes = bt ∧ z.cells = zs.toArray ∧ zs.length = sz
def slInfo (P : Program) (t : TypeId) : Option (TypeId × Nat × Nat × List Value) :=
  match P.underlying t with
  | some (.slice e) => match P.info? e with
    | some i => match i.zero with
      | some z => if z.cells.size = i.size then some (e, i.size, i.bytes, z.cells.toList) else none
      | none => none
    | none => none
  | _ => none
theorem SlT.of {P : Program} {t e : TypeId} {sz bt : Nat} {zs : List Value} (h : slInfo P t = some (e, sz, bt, zs)) : SlT P t e sz bt zs := by
  unfold slInfo at h
  split at h <;> try (simp at h; done)
  rename_i e' hu
  split at h <;> try (simp at h; done)
  rename_i i hi
  split at h <;> try (simp at h; done)
  rename_i z hz
  split at h <;> simp at h
  rename_i hs
  obtain ⟨rfl, h2, h3, h4⟩ := h
  exact ⟨hu, i, z, hi, hz, h2, h3, by rw [← h4], by rw [← h4, ← h2]; simpa using hs⟩
section
variable {P : Program} {ρ : Fr} {w w0 : World} {d : Option Nat} {next : Fr → World → Prop} {L L' R : List Chk} {g : Nat} {t e ty : TypeId} {v : Value} {sz bt : Nat}
theorem setCells_stL (g o : Nat) : ∀ (l : List Value) (i : Nat) (w : World), w.setCells g (o + i) l = stL w ⟨g, o, none⟩ l i
  | [], _, _ => rfl
  | v :: l, i, w => by
    simp only [World.setCells, stL, addg]
    exact setCells_stL g o l (i + 1) _
theorem setL_eq : ∀ (l : List Value) (o : Nat) (cs : List Value), o + l.length ≤ cs.length → setL cs o l = cs.take o ++ l ++ cs.drop (o + l.length)
  | [], o, cs, h => by simp [setL]
  | v :: l, o, cs, h => by
    simp only [List.length_cons] at h
    rw [setL, setL_eq l (o + 1) (cs.set o v) (by simp; omega)]
    rw [List.drop_set_of_lt (by omega), List.take_succ_eq_append_getElem (by simp; omega)]
    simp [List.take_set_of_le, Nat.add_assoc, Nat.add_comm 1]
/-- append onto a slice of the call's own, of whatever is read. -/
theorem app_run {α : Type} {E : Enc α} {xs ys : List α} {x : Value} {tx : TypeId} {R : Value → List Chk} (hS : Sep w0 w L) {zs : List Value} (hT : SlT P t e E.sz bt zs) (hp : 0 < E.sz) (hu : ∀ v', Up (accC v e E xs) (accC v' e E (xs ++ ys)) L (R v'))
    (hs : Src P E.sz tx x ys.length (ys.flatMap E.f) w) (h63 : ((xs.length + ys.length) + (xs.length + ys.length) / 4 + 192) * bt ≤ 281474976710656) (h64 : xs.length + ys.length ≤ 1000000000000000) :
    ∃ v' w', (Builtin.append_ #[t, tx] ty #[v, x]).run P w = .ok v' w' ∧ Sep w0 w' (R v') := by
  obtain ⟨i, z, hi, hz, hsz, hby, hzs, hzl⟩ := hT.i
  have hzs : z.cells.size = E.sz := by rw [hzs]; simpa using hzl
  obtain ⟨R0, he, _⟩ := (hu v).split
  obtain ⟨F, ⟨h1, h2, h3, h4⟩, hF⟩ := hS.get he
  have hone : ∀ u ∈ (xs ++ ys).flatMap E.f, One u := by
    intro u hm
    rw [List.flatMap_append, List.mem_append] at hm
    rcases hm with hm | hm
    · exact h3 u hm
    · exact hs.one u hm
  have hml : xs.length + ys.length ≤ maxLen := by unfold maxLen; omega
  have hlen : ((xs ++ ys).flatMap E.f).length = (xs ++ ys).length * E.sz := flat_len E _
  have hfm : (xs ++ ys).flatMap E.f = xs.flatMap E.f ++ ys.flatMap E.f := List.flatMap_append
  have hla : (xs ++ ys).length = xs.length + ys.length := List.length_append
  have hly := flat_len E ys
  have hlx := flat_len E xs
  have hs' : Src P i.size tx x ys.length (ys.flatMap E.f) w := by rw [hsz]; exact hs
  have hfit : ∀ old, old < xs.length + ys.length → Builtin.nextslicecap (xs.length + ys.length) old * i.bytes ≤ 281474976710656 := fun old ho =>
    Nat.le_trans (Nat.mul_le_mul_right _ (nextslicecap_le_wide ho)) (by rw [hby]; exact h63)
  have grown : ∀ (v : Value) (old : Nat), old < xs.length + ys.length → Up (accC v e E xs) (accC (.slice (some ⟨w.heap.size, 0, none⟩) (xs.length + ys.length) (grownCap w (xs.length + ys.length) old e)) e E (xs ++ ys)) L (R (.slice (some ⟨w.heap.size, 0, none⟩) (xs.length + ys.length) (grownCap w (xs.length + ys.length) old e))) →
      Sep w0 (w.drew.alloc (.cells ((xs.flatMap E.f ++ ys.flatMap E.f).toArray ++ Builtin.zeroCells z.cells (grownCap w (xs.length + ys.length) old e - (xs.length + ys.length))) e)) (R (.slice (some ⟨w.heap.size, 0, none⟩) (xs.length + ys.length) (grownCap w (xs.length + ys.length) old e))) := by
    intro v old ho hu
    have hge := grownCap_ge w (xs.length + ys.length) old e
    have hcm : grownCap w (xs.length + ys.length) old e ≤ maxLen := grownCap_le_maxLen w (xs.length + ys.length) old e hml
    refine hS.change hu (by simp) rfl rfl rfl ?_
    rintro F' - hF'
    refine ⟨fun b => b = w.heap.size, ⟨⟨hlen, .inr ⟨w.heap.size, _, _, by rw [hla], Nat.zero_le _, heap_alloc_new w.drew _, by rw [hla]; exact hge, hcm, ?_, ?_⟩⟩, fun g hg => by simpa [Value.ownBlock] using hg.symm, hone, by omega⟩, fun b hb => ⟨by rw [hb]; simp, .inr (by omega)⟩, fun b hb _ => Below.heap_alloc w.drew _ b hb⟩
    · simp only [Array.size_append, List.size_toArray, size_zeroCells, hzs, List.length_append, hlx, hly, ← Nat.add_mul]
      congr 1
      omega
    · simp only [Array.toList_append, hfm]
      rw [← hlen, hfm]
      exact List.take_left
  rcases h1.2 with ⟨rfl, hn⟩ | ⟨g, cap, cur, rfl, hbg, hg, hnc, hcm, hcs, htake⟩
  · have hx : xs = [] := List.eq_nil_of_length_eq_zero hn
    subst hx
    by_cases hm : ys.length = 0
    · have hy : ys = [] := List.eq_nil_of_length_eq_zero hm
      subst hy
      refine ⟨.slice none 0 0, w, ?_, ?_⟩
      · rcases hs.kind with ⟨e', hk⟩ | hk
        all_goals
          have hl0 := hs.len w
          have hc0 := hs.cells
          simp only [List.length_nil, List.flatMap_nil] at hl0 hc0
          have hc1 : (Builtin.firstCells i.size 0 x).run P w = .ok #[] w := by rw [hsz]; exact hc0
          simp [Builtin.append_, run_underlying hT.u, run_underlying hk, sizeOf, typeInfo, hi, hl0, hc1]
      · refine hS.change (hu _) (Nat.le_refl _) rfl rfl rfl ?_
        rintro F' ⟨a1, a2, a3, a4⟩ hF'
        exact ⟨F', ⟨a1, a2, a3, a4⟩, fun b hb => ⟨hF' b hb, .inl hb⟩, fun _ _ _ => rfl⟩
    · have hr := run_append_grow_src (P := P) w t tx ty e i z hT.u hi hz none 0 0 [] (by simp [Builtin.firstCells]) x ys.length (ys.flatMap E.f) hs' (by omega) (by omega) (by have := hfit 0 (by simp; omega); simpa using this)
      have := grown (.slice none 0 0) 0 (by simp; omega) (hu _)
      simp only [List.length_nil, Nat.zero_add, List.flatMap_nil, List.nil_append] at this hr
      exact ⟨_, _, hr, this⟩
  · by_cases hroom : xs.length + ys.length ≤ cap
    · have hfit2 : xs.length * E.sz + (ys.flatMap E.f).length ≤ cur.size := by rw [hly, hcs, ← Nat.add_mul]; exact Nat.mul_le_mul_right _ hroom
      have hcell : ∀ j, j < (ys.flatMap E.f).length → (w.cell? ⟨g, 0 + xs.length * i.size + j, none⟩).isSome = true := fun j hj => by
        rw [cell_of_row w g _ cur e (0, 0) hg, hsz]
        have h5 : 0 + xs.length * E.sz + j < cur.size := by omega
        rw [Array.getElem?_eq_getElem h5]; rfl
      have hfz : ∀ j, j < (ys.flatMap E.f).length → w.frozen? ⟨g, 0 + xs.length * i.size + j, none⟩ = false := fun j hj => Blk.frozen (show Blk w g e cur from hg) _
      have hr := run_append_room_src (P := P) w t tx ty e i hT.u hi g 0 xs.length cap x ys.length (ys.flatMap E.f) hs' hroom hcell hfz
      refine ⟨_, _, hr, ?_⟩
      have e0 : w.setCells g (0 + xs.length * i.size) (ys.flatMap E.f) = stL w ⟨g, xs.length * E.sz, none⟩ (ys.flatMap E.f) 0 := by
        rw [Nat.zero_add, hsz]; exact setCells_stL g (xs.length * E.sz) _ 0 w
      rw [e0]
      obtain ⟨s1, s2, s3, s4⟩ := stL_size (p := ⟨g, xs.length * E.sz, none⟩) (ys.flatMap E.f) 0 w
      refine hS.change (hu _) (by omega) s2 s3 s4 ?_
      rintro F' ⟨a1, a2, a3, a4⟩ hF'
      have hFg := a2 g rfl
      have hblk := stL_Blk (g := g) (o := xs.length * E.sz) (t := e) (ys.flatMap E.f) 0 w cur.toList hg
      rw [Nat.add_zero, setL_eq _ _ _ (by simpa using hfit2)] at hblk
      refine ⟨F', ⟨⟨hlen, .inr ⟨g, cap, _, by rw [hla], Nat.zero_le _, hblk, by rw [hla]; exact hroom, hcm, ?_, ?_⟩⟩, fun k hk => a2 k hk, hone, by omega⟩, fun b hb => ⟨by have := hF' b hb; omega, .inl hb⟩, fun b _ hb => stL_far' b (fun e => hb (by rw [e]; exact hFg)) _ _ _⟩
      · simp only [List.size_toArray, List.length_append, List.length_take, List.length_drop, Array.length_toList]
        omega
      · rw [htake, hfm, ← hlen, hfm]
        exact List.take_left
    · have holds : ∀ j u, (xs.flatMap E.f)[j]? = some u → w.drew.cell? ((⟨g, 0, none⟩ : Addr).add j) = some u := h1.cells (g := g) rfl
      have hr := run_append_grow_src (P := P) w t tx ty e i z hT.u hi hz (some ⟨g, 0, none⟩) xs.length cap (xs.flatMap E.f) (run_firstCells_some w.drew i.size xs.length _ xs.length cap _ (by rw [hsz]; exact hlx) holds) x ys.length (ys.flatMap E.f) hs' (by omega) (by omega) (hfit cap (by omega))
      exact ⟨_, _, hr, grown _ cap (by omega) (hu _)⟩
end
end Go.Proofs.Ytdhieolfdlkeaaa
