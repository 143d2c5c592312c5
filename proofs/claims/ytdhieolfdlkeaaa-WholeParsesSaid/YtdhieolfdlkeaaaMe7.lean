/- The engine, part 7: memory: blocks known whole, slices that are read. -/
import Derived.Test.YtdhieolfdlkeaaaMe6
namespace Go.Proofs.Ytdhieolfdlkeaaa
set_option linter.unusedSimpArgs false
set_option linter.unusedVariables false
open Go.RowKit

/-- Block g is just these cells. -/
def Blk (w : World) (g : Nat) (t : TypeId) (cs : Array Value) : Prop := w.heap[g]? = some (.cells cs t (0, 0))
section
variable {w w' : World} {g : Nat} {t : TypeId} {cs : Array Value}
theorem Blk.lt (h : Blk w g t cs) : g < w.heap.size := by
  rcases Nat.lt_or_ge g w.heap.size with hlt | hge
  · exact hlt
  · unfold Blk at h; rw [Array.getElem?_eq_none hge] at h; cases h
theorem Blk.cell (h : Blk w g t cs) (i : Nat) : w.cell? ⟨g, i, none⟩ = cs[i]? := cell_of_row w g i cs t (0, 0) h
theorem Blk.frozen (h : Blk w g t cs) (i : Nat) : w.frozen? ⟨g, i, none⟩ = false := by
  unfold Blk at h
  simp [World.frozen?, h]
theorem Blk.new (w : World) (t : TypeId) (cs : Array Value) : Blk (w.alloc (.cells cs t)) w.heap.size t cs := heap_alloc_new w _
theorem Blk.ext (h : Blk w g t cs) (hx : Ext w w') : Blk w' g t cs := (hx.block g h.lt).trans h
theorem Blk.set_ (h : Blk w g t cs) (i : Nat) (u : Value) : Blk (w.setCell ⟨g, i, none⟩ u) g t (cs.setIfInBounds i u) := by
  unfold Blk at h ⊢
  simp [World.setCell, Array.getElem?_modify, h]
theorem Blk.far (h : Blk w g t cs) {p : Addr} (hp : g ≠ p.block) (u : Value) : Blk (w.setCell p u) g t cs := (Below.heap_setCell w p u g hp).trans h
end
theorem add_blk (g i : Nat) : (⟨g, 0, none⟩ : Addr).add i = ⟨g, i, none⟩ := by
  unfold Addr.add
  split
  · rename_i h; subst h; rfl
  · simp
theorem Below.stL {B : Nat} {a : World} (p : Addr) (hp : B ≤ p.block) : ∀ (l : List Value) (i : Nat) (w : World), Below B a w → Below B a (stL w p l i)
  | [], _, _, h => h
  | v :: l, i, w, h => Below.stL p hp l (i + 1) _ (h.setCell (by show B ≤ (p.add i).block; unfold Addr.add; split <;> exact hp) v)
theorem stL_blk {g : Nat} {t : TypeId} : ∀ (l : List Value) (i : Nat) (w : World) (cs : List Value), Blk w g t cs.toArray → i + l.length ≤ cs.length → Blk (stL w ⟨g, 0, none⟩ l i) g t (cs.take i ++ l ++ cs.drop (i + l.length)).toArray := by
  intro l
  induction l with
  | nil => intro i w cs h hi; simpa [stL] using h
  | cons v l ih =>
    intro i w cs h hi
    simp only [stL, add_blk]
    have h1 := h.set_ i v
    rw [List.setIfInBounds_toArray] at h1
    have := ih (i + 1) _ _ h1 (by simp at hi ⊢; omega)
    have e : (cs.set i v).take (i + 1) ++ l ++ (cs.set i v).drop (i + 1 + l.length) = cs.take i ++ (v :: l) ++ cs.drop (i + (v :: l).length) := by
      have hi' : i < cs.length := by simp at hi; omega
      rw [List.drop_set_of_lt (by omega), List.take_succ_eq_append_getElem (by simpa using hi')]
      simp [List.take_set_of_le, Nat.add_assoc, Nat.add_comm 1]
    rw [← e]
    exact this
/-- A whole composite stored into a block of its size. -/
theorem okSt_blk {w : World} {g n : Nat} {t : TypeId} {cs : Array Value} (h : Blk w g t cs) {xs : List Value} (hn : xs.length = n) (hc : n ≤ cs.size) (h1 : ∀ u ∈ xs, u.oneCell' = true) : okSt w n (.pointer (some ⟨g, 0, none⟩)) (.agg xs.toArray) := by
  refine ⟨by simpa [Value.cells] using hn, by simpa [Value.cells] using h1, fun j hj => ?_⟩
  rw [add_blk, h.cell, h.frozen]
  exact ⟨by simp; omega, rfl⟩
theorem stW_blk {w : World} {g : Nat} {t : TypeId} {cs xs : List Value} (h : Blk w g t cs.toArray) (hn : xs.length = cs.length) : Blk (stW w (.pointer (some ⟨g, 0, none⟩)) (.agg xs.toArray)) g t xs.toArray := by
  have := stL_blk xs 0 w cs h (by omega)
  simpa [stW, Value.cells, hn] using this
theorem stW_below {B : Nat} {a w : World} {p : Addr} {v : Value} (h : Below B a w) (hp : B ≤ p.block) : Below B a (stW w (.pointer (some p)) v) := Below.stL p hp _ _ _ h
/-- A result that lies in a block of the call's own. -/
theorem resA {P : Program} {fn : Func} {n : Nat} {ρ : Fr} {w : World} {g t s : Nat} {xs : List Value} (hf : fn.results = #[.cell s t]) (hs : ρ s = .pointer (some ⟨g, 0, none⟩)) (hb : Blk w g t xs.toArray)
    (ht : aggN P t = some (some xs.length)) (a : Act) (hr : Rel n a ρ) : (results fn a.tmps).run P w = .ok (.agg xs.toArray) w := by
  obtain ⟨h1, j, h2, h3⟩ := run_isAgg_some (w := w) ht
  have hl : (loadCells ⟨g, 0, none⟩ xs.length).run P w = .ok xs.toArray w := run_loadCells_list w _ xs fun j v hv => by rw [add_blk, hb.cell]; simpa using hv
  have h0 := hr.2.2 s
  rw [hs, Array.getD_eq_getD_getElem?] at h0
  simp [results, hf, loadVar, h0, asAddr, h1, sizeOf, typeInfo, h2, h3, hl]
theorem G.retA {P : Program} {fn : Func} {n : Nat} {r : List MI} {R : Value → World → Prop} {ρ : Fr} {w : World} {g t s : Nat} {xs : List Value} (hf : fn.results = #[.cell s t]) (hs : ρ s = .pointer (some ⟨g, 0, none⟩)) (hb : Blk w g t xs.toArray)
    (ht : aggN P t = some (some xs.length)) (h : R (.agg xs.toArray) w) : G P fn n (.c .ret :: r) R ρ w := ret_of (fun a hr => resA hf hs hb ht a hr) h
/-- Bytes just laid, as a string. -/
theorem b2s_new (w : World) (t : TypeId) (xs : List Int) (c : Nat) : okB2s (w.alloc (.cells (xs.map (Value.int .u8)).toArray t)) (.slice (some ⟨w.heap.size, 0, none⟩) xs.length c) ∧
    b2sV (w.alloc (.cells (xs.map (Value.int .u8)).toArray t)) (.slice (some ⟨w.heap.size, 0, none⟩) xs.length c) = S (xs.map fun x => UInt8.ofNat x.toNat) := by
  have hb := Blk.new w t (xs.map (Value.int .u8)).toArray
  have hc : ∀ j (hj : j < xs.length), (w.alloc (.cells (xs.map (Value.int .u8)).toArray t)).cell? ((⟨w.heap.size, 0, none⟩ : Addr).add j) = some (.int .u8 xs[j]) := fun j hj => by
    rw [add_blk, hb.cell]; simp [hj]
  refine ⟨fun j hj => ⟨_, hc j hj⟩, ?_⟩
  simp only [b2sV]
  congr 1
  apply List.ext_getElem
  · simp
  · intro j h1 h2
    simp only [List.getElem_map, List.getElem_range, List.length_map, List.length_range] at h1 h2 ⊢
    rw [hc j h1]; rfl
section
variable {w : World} {t : TypeId} {a b c d : Int}
theorem okB2s_1 : okB2s (w.alloc (.cells [.int .u8 a].toArray t)) (.slice (some ⟨w.heap.size, 0, none⟩) 1 1) = True := eq_true (b2s_new w t [a] 1).1
theorem okB2s_2 : okB2s (w.alloc (.cells [.int .u8 a, .int .u8 b].toArray t)) (.slice (some ⟨w.heap.size, 0, none⟩) 2 2) = True := eq_true (b2s_new w t [a, b] 2).1
theorem okB2s_3 : okB2s (w.alloc (.cells [.int .u8 a, .int .u8 b, .int .u8 c].toArray t)) (.slice (some ⟨w.heap.size, 0, none⟩) 3 3) = True := eq_true (b2s_new w t [a, b, c] 3).1
theorem okB2s_4 : okB2s (w.alloc (.cells [.int .u8 a, .int .u8 b, .int .u8 c, .int .u8 d].toArray t)) (.slice (some ⟨w.heap.size, 0, none⟩) 4 4) = True := eq_true (b2s_new w t [a, b, c, d] 4).1
theorem b2sV_1 : b2sV (w.alloc (.cells [.int .u8 a].toArray t)) (.slice (some ⟨w.heap.size, 0, none⟩) 1 1) = S [UInt8.ofNat a.toNat] := (b2s_new w t [a] 1).2
theorem b2sV_2 : b2sV (w.alloc (.cells [.int .u8 a, .int .u8 b].toArray t)) (.slice (some ⟨w.heap.size, 0, none⟩) 2 2) = S [UInt8.ofNat a.toNat, UInt8.ofNat b.toNat] := (b2s_new w t [a, b] 2).2
theorem b2sV_3 : b2sV (w.alloc (.cells [.int .u8 a, .int .u8 b, .int .u8 c].toArray t)) (.slice (some ⟨w.heap.size, 0, none⟩) 3 3) = S [UInt8.ofNat a.toNat, UInt8.ofNat b.toNat, UInt8.ofNat c.toNat] := (b2s_new w t [a, b, c] 3).2
theorem b2sV_4 : b2sV (w.alloc (.cells [.int .u8 a, .int .u8 b, .int .u8 c, .int .u8 d].toArray t)) (.slice (some ⟨w.heap.size, 0, none⟩) 4 4) = S [UInt8.ofNat a.toNat, UInt8.ofNat b.toNat, UInt8.ofNat c.toNat, UInt8.ofNat d.toNat] := (b2s_new w t [a, b, c, d] 4).2
end
end Go.Proofs.Ytdhieolfdlkeaaa
