/- Texts of the proof, joined. -/
import Derived.Lib.AppendZerosOnto
import Derived.Test.YtjajihaeoolefaaDooryMc
namespace Go.Proofs.YtjajihaeoolefaaDoor
set_option linter.unusedSimpArgs false
set_option linter.unusedVariables false
open Go.RowKit
section
variable {P : Program} {ρ : Fr} {w w0 : World} {d : Option Nat} {next : Fr → World → Prop} {L : List Chk} {t e tn ty : TypeId} {bt sz : Nat} {zs : List Value}
theorem cap0K (hT : SlT P t e sz bt zs) (k : next (updO ρ d (I 0)) w) : SemK P (Builtin.cap_ #[t] ty #[.slice none 0 0]) w d ρ next :=
  ⟨_, w, by simp [Builtin.cap_, run_underlying hT.u, goInt], k⟩
theorem grow0K {α : Type} {E : Enc α} {z0 : α} {n : Nat} (hS : Sep w0 w L) (hT : SlT P t e E.sz bt zs) (hzs : zs = E.f z0) (hp : 0 < E.sz) (htn : P.underlying tn = some (.int .i64)) (h0 : 0 < n) (hn : n ≤ 1000000) (hb : bt ≤ 1000) (h1 : ∀ u ∈ E.f z0, One u)
    (k : ∀ v w', Sep w0 w' (accC v e E (List.replicate n z0) :: L) → next (updO ρ d v) w') : SemK P (Builtin.append_ #[t, tn] ty #[.slice none 0 0, .int .i64 n]) w d ρ next := by
  obtain ⟨i, z, hi, hz, hsz, hby, hzc, hzl⟩ := hT.i
  have hzs : z.cells = (E.f z0).toArray := by rw [hzc, hzs]
  have hbt : n * bt ≤ 1000000 * 1000 := Nat.mul_le_mul hn hb
  have hr := Lib.run_append_grow_zeros (P := P) w t tn ty e i z .i64 .i64 hT.u htn hi hz none 0 0 [] (by simp [Builtin.firstCells]) n h0 (by rw [hsz]; exact hp) (by omega) (by omega) (by rw [hby]; omega)
    (Nat.le_trans (Nat.mul_le_mul_right _ (nextslicecap_le_wide (by omega))) (by rw [hby]; have : (0 + n + (0 + n) / 4 + 192) * bt ≤ 2000000 * 1000 := Nat.mul_le_mul (by omega) hb; omega))
  refine ⟨_, _, hr, k _ _ ?_⟩
  have hge := grownCap_ge w (0 + n) 0 e
  have hcm : grownCap w (0 + n) 0 e ≤ maxLen := grownCap_le_maxLen w (0 + n) 0 e (by unfold maxLen; omega)
  refine hS.push ((Ext.refl w).drew.alloc _) (F := fun b => b = w.heap.size) ?_ (by intro b hb; subst hb; exact ⟨Nat.le_refl _, by simp⟩)
  have hone : ∀ (m : Nat) (u : Value), u ∈ (List.replicate m z0).flatMap E.f → One u := by
    intro m u hu
    obtain ⟨x, hx, hu⟩ := List.mem_flatMap.1 hu
    rw [(List.mem_replicate.1 hx).2] at hu
    exact h1 u hu
  have hzc2 : ∀ m, (Builtin.zeroCells z.cells m).toList = (List.replicate m z0).flatMap E.f := fun m => by
    rw [← zeros_eq E z0 hp m]
    unfold Builtin.zeroCells
    rw [hzs]
    simp [E.len]
  refine ⟨⟨flat_len E _, .inr ⟨w.heap.size, _, _, by simp, Nat.zero_le _, heap_alloc_new w.drew _, by simpa using hge, hcm, ?_, ?_⟩⟩, fun b hb => by simpa [Value.ownBlock] using hb.symm, hone _, by simp; omega⟩
  · simp only [Array.size_append, size_zeroCells, hzs, List.size_toArray, E.len, List.length_nil]
    rw [Nat.zero_add, ← Nat.add_mul]
    congr 1
    simp at hge ⊢
    omega
  · simp only [Array.toList_append, hzc2, List.nil_append, List.length_replicate]
    rw [show n * E.sz = ((List.replicate n z0).flatMap E.f).length by rw [flat_len]; simp]
    exact List.take_left
end
end Go.Proofs.YtjajihaeoolefaaDoor
