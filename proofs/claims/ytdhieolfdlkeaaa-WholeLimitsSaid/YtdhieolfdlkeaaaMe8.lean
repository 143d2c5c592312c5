/- The engine, part 8: boxed structs: laid, stored whole, read whole. -/
import Derived.Test.YtdhieolfdlkeaaaMe7
namespace Go.Proofs.Ytdhieolfdlkeaaa
set_option linter.unusedSimpArgs false
set_option linter.unusedVariables false
open Go.RowKit

/-- A struct laid in a new block and filled. -/
theorem alst (w : World) (t : TypeId) (zs xs : List Value) (h : xs.length = zs.length) :
    ∃ w2, stW (w.alloc (.cells zs.toArray t)) (.pointer (some ⟨w.heap.size, 0, none⟩)) (.agg xs.toArray) = w2 ∧ Blk w2 w.heap.size t xs.toArray ∧ Ext w w2 :=
  ⟨_, rfl, stW_blk (Blk.new w t zs.toArray) h, stW_below ((Ext.refl w).alloc _) (Nat.le_refl _)⟩
theorem stL_far {g : Nat} (j : Nat) (hj : j ≠ g) : ∀ (l : List Value) (i : Nat) (w : World), (stL w ⟨g, 0, none⟩ l i).heap[j]? = w.heap[j]?
  | [], _, _ => rfl
  | v :: l, i, w => by
    rw [stL, stL_far j hj l, add_blk]
    exact Below.heap_setCell w _ v j hj
/-- A struct stored over a block known whole. -/
theorem blst {w : World} {g : Nat} {t : TypeId} {cs : List Value} (xs : List Value) (hb : Blk w g t cs.toArray) (h : xs.length = cs.length) :
    ∃ w2, stW w (.pointer (some ⟨g, 0, none⟩)) (.agg xs.toArray) = w2 ∧ Blk w2 g t xs.toArray ∧ (∀ {B a}, B ≤ g → Below B a w → Below B a w2) ∧ ∀ {j u cs'}, j ≠ g → Blk w j u cs' → Blk w2 j u cs' :=
  ⟨_, rfl, stW_blk hb h, fun hB h => stW_below h hB, fun hj h => (stL_far _ hj _ _ _).trans h⟩
theorem ld_blk {w : World} {g : Nat} {t : TypeId} {xs : List Value} (hb : Blk w g t xs.toArray) (n : Nat) (hn : n = xs.length) :
    okLd w (some n) (.pointer (some ⟨g, 0, none⟩)) ∧ ldV w (some n) (.pointer (some ⟨g, 0, none⟩)) = .agg xs.toArray := by
  subst hn
  refine ⟨fun j hj => ?_, ?_⟩
  · rw [add_blk, hb.cell]; simp [hj]
  · simp only [ldV, add_blk, hb.cell]
    congr 1
    apply congrArg
    apply List.ext_getElem
    · simp
    · intro j h1 h2; simp at h1 h2 ⊢; simp [h2]
theorem alst_k {w : World} {t : TypeId} {zs xs : List Value} {n : Nat} {Z : World → Prop} (h : xs.length = zs.length) (hn : xs.length = n) (h1 : ∀ u ∈ xs, u.oneCell' = true)
    (hz : ∀ w2, Blk w2 w.heap.size t xs.toArray → Ext w w2 → Z w2) :
    okSt (w.alloc (.cells zs.toArray t)) n (.pointer (some ⟨w.heap.size, 0, none⟩)) (.agg xs.toArray) ∧ Z (stW (w.alloc (.cells zs.toArray t)) (.pointer (some ⟨w.heap.size, 0, none⟩)) (.agg xs.toArray)) := by
  obtain ⟨w2, e, hb, hx⟩ := alst w t zs xs h
  refine ⟨okSt_blk (Blk.new _ _ _) hn (by simp [← hn, h]) h1, ?_⟩
  rw [e]
  exact hz w2 hb hx
theorem blst_k {w : World} {g : Nat} {t : TypeId} {cs xs : List Value} {n : Nat} {Z : World → Prop} (hb : Blk w g t cs.toArray) (h : xs.length = cs.length) (hn : xs.length = n) (h1 : ∀ u ∈ xs, u.oneCell' = true)
    (hz : ∀ w2, Blk w2 g t xs.toArray → (∀ {B a}, B ≤ g → Below B a w → Below B a w2) → (∀ {j u cs'}, j ≠ g → Blk w j u cs' → Blk w2 j u cs') → Z w2) :
    okSt w n (.pointer (some ⟨g, 0, none⟩)) (.agg xs.toArray) ∧ Z (stW w (.pointer (some ⟨g, 0, none⟩)) (.agg xs.toArray)) := by
  obtain ⟨w2, e, h2, h3, h4⟩ := blst xs hb h
  refine ⟨okSt_blk hb hn (by simp [← hn, h]) h1, ?_⟩
  rw [e]
  exact hz w2 h2 h3 h4
end Go.Proofs.Ytdhieolfdlkeaaa
