/- Slices of slices: parts that are only read any more. -/
import Derived.Test.YtdhieolfdlkeaaaNj
namespace Go.Proofs.Ytdhieolfdlkeaaa
set_option linter.unusedSimpArgs false
set_option linter.unusedVariables false
open Go.RowKit
/-- A slice that reads as these elements, out of certain blocks. -/
def RdF {α : Type} (F : Nat → Prop) (w : World) (E : Enc α) (v : Value) (xs : List α) : Prop := Rd w E v xs ∧ ∀ a n c, v = .slice (some a) n c → 0 < xs.length → F a.block
section
variable {α : Type} {w w' w0 : World} {E : Enc α} {F F' : Nat → Prop} {v : Value} {xs : List α} {vs : List Value} {xss : List (List α)} {L M R : List Chk} {t : TypeId}
theorem RdF.loc (h : RdF F w E v xs) (hb : ∀ b, F b → b < w.heap.size ∧ w'.heap[b]? = w.heap[b]?) : RdF F w' E v xs := by
  obtain ⟨⟨p, cap, h1, h2, h3, h4, h5⟩, hF⟩ := h
  refine ⟨⟨p, cap, h1, h2, h3, h4, fun hn => ?_⟩, hF⟩
  obtain ⟨a, ha, hc⟩ := h5 hn
  refine ⟨a, ha, fun j u hj => ?_⟩
  have hf := hF a _ _ (by rw [h1, ha]) hn
  have h6 := hc j u hj
  have hblk : (a.add j).block = a.block := by unfold Addr.add; split <;> rfl
  unfold World.cell? at h6 ⊢
  rw [hblk] at h6 ⊢
  rw [(hb _ hf).2]
  exact h6
theorem RdF.mono (h : RdF F w E v xs) (hF : ∀ b, F b → F' b) : RdF F' w E v xs := ⟨h.1, fun a n c hv hn => hF _ (h.2 a n c hv hn)⟩
def frzC (E : Enc α) (vs : List Value) (xss : List (List α)) : Chk where
  ok w F := vs.length = xss.length ∧ ∀ i, i < xss.length → RdF F w E (vs.getD i default) (xss.getD i [])
  loc := fun hb ⟨h1, h2⟩ => ⟨h1, fun i hi => (h2 i hi).loc hb⟩
theorem Sep.frz0 (hS : Sep w0 w L) (E : Enc α) : Sep w0 w (frzC E [] [] :: L) := hS.push (Ext.refl w) (F := fun _ => False) ⟨rfl, fun i hi => by simp at hi⟩ (fun _ h => h.elim)
theorem acc_rdF (h : (accC v t E xs).ok w F) : RdF F w E v xs := by
  obtain ⟨h1, h2, h3, h4⟩ := h
  refine ⟨own_rd h1 h3 h4, fun a n c hv hn => ?_⟩
  rcases h1.2 with ⟨hv', hn'⟩ | ⟨g, cap, cur, hv', _⟩
  · rw [hv'] at hv; simp at hv
  · rw [hv'] at hv
    simp only [Value.slice.injEq, Option.some.injEq] at hv
    rw [← hv.1]
    exact h2 g (by rw [hv']; rfl)
theorem getD_snoc_lt {β : Type} (l : List β) (x d : β) (i : Nat) (h : i < l.length) : (l ++ [x]).getD i d = l.getD i d := by
  simp [List.getD_eq_getElem?_getD, List.getElem?_append_left h]
theorem getD_snoc_eq {β : Type} (l : List β) (x d : β) : (l ++ [x]).getD l.length d = x := by
  simp [List.getD_eq_getElem?_getD]
theorem Sep.frzPush (hS : Sep w0 w L) (h1 : Ex (accC v t E xs) L M) (h2 : Ex (frzC E vs xss) M R) : Sep w0 w (frzC E (vs ++ [v]) (xss ++ [xs]) :: R) := by
  obtain ⟨F, f1, f2, f3⟩ := SepL.take h1 hS.2
  obtain ⟨G, g1, g2, g3⟩ := SepL.take h2 f3
  refine ⟨hS.1, fun b => F b ∨ G b, ?_, fun b hb => ?_, SepL.mono g3 ?_⟩
  · obtain ⟨hl, hr⟩ := g1
    refine ⟨by simp [hl], fun i hi => ?_⟩
    simp only [List.length_append, List.length_cons, List.length_nil] at hi
    by_cases hlt : i < xss.length
    · rw [getD_snoc_lt _ _ _ _ (by omega), getD_snoc_lt _ _ _ _ hlt]
      exact (hr i hlt).mono fun b h => .inr h
    · have : i = xss.length := by omega
      subst this
      rw [getD_snoc_eq, ← hl, getD_snoc_eq]
      exact (acc_rdF f1).mono fun b h => .inl h
  · rcases hb with hb | hb
    · exact ⟨(f2 b hb).1, (f2 b hb).2.1, id⟩
    · exact ⟨(g2 b hb).1, (g2 b hb).2.1, id⟩
  · rintro b (h | h | h)
    · exact h.elim
    · exact .inl (.inr h)
    · exact .inr h
theorem Sep.frzAt (hS : Sep w0 w L) (h : Ex (frzC E vs xss) L R) {i : Nat} (hi : i < xss.length) : Rd w E (vs.getD i default) (xss.getD i []) := by
  obtain ⟨F, h1, _⟩ := hS.get h
  exact (h1.2 i hi).1
theorem Sep.frzLen (hS : Sep w0 w L) (h : Ex (frzC E vs xss) L R) : vs.length = xss.length := by
  obtain ⟨F, h1, _⟩ := hS.get h
  exact h1.1
theorem Sub.rfl' : ∀ {M : List Chk}, Sub M M
  | [] => .n
  | _ :: _ => .c .h Sub.rfl'
theorem Sub.skip {d : Chk} : ∀ {M L : List Chk}, Sub M L → Sub M (d :: L) := by
  intro M L h
  induction h with
  | n => exact .n
  | c he _ ih => exact .c (.t he) ih
/-- A slice of the call's own, cut to nothing: what lies behind is free again. -/
theorem Sep.cut0 {k : IntKind} {L' : List Chk} {sz : Nat} (hS : Sep w0 w L) (hu : Up (accC v t E xs) (accC (slVV sz none (some (.int k 0)) v) t E []) L L') : Sep w0 w L' := by
  refine hS.change hu (Nat.le_refl _) rfl rfl rfl fun F hc hF => ⟨F, ?_, fun b hb => ⟨hF b hb, .inl hb⟩, fun _ _ _ => rfl⟩
  obtain ⟨⟨h1, h2⟩, h3, h4, h5⟩ := hc
  rcases h2 with ⟨rfl, hn⟩ | ⟨g, cap, cur, rfl, hb, hg, hnc, hcm, hcs, htk⟩
  · exact ⟨⟨by simp, .inl ⟨rfl, rfl⟩⟩, fun g h => by simp [slVV, Value.ownBlock, loN, hiN] at h, by simp, by simp⟩
  · have e : slVV sz none (some (.int k 0)) (.slice (some ⟨g, 0, none⟩) xs.length cap) = .slice (some ⟨g, 0, none⟩) 0 cap := by
      simp [slVV, loN, hiN, Addr.add]
    rw [e]
    exact ⟨⟨by simp, .inr ⟨g, cap, cur, rfl, hb, hg, Nat.zero_le _, hcm, hcs, by simp⟩⟩, fun g' h => h3 g' (by simpa [Value.ownBlock] using h), by simp, by simp⟩
/-- A slice of slices. -/
def RdT (w : World) (E : Enc α) (v : Value) (xss : List (List α)) : Prop := ∃ vs, Rd w eV v vs ∧ vs.length = xss.length ∧ ∀ i, i < xss.length → Rd w E (vs.getD i default) (xss.getD i [])
theorem RdT.ext (h : RdT w E v xss) (hx : Ext w w') : RdT w' E v xss := by
  obtain ⟨vs, h1, h2, h3⟩ := h
  exact ⟨vs, h1.ext hx, h2, fun i hi => (h3 i hi).ext hx⟩
theorem Sep.rdT (hS : Sep w0 w L) {u : TypeId} (h1 : Ex (accC v u eV vs) L M) (h2 : Ex (frzC E vs xss) L R) : RdT w E v xss := ⟨vs, hS.rd h1, hS.frzLen h2, fun _ hi => hS.frzAt h2 hi⟩
end
end Go.Proofs.Ytdhieolfdlkeaaa
