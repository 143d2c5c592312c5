/- Texts of the proof, joined. -/
import Derived.Test.YtdhieolfdlkeaaaqX27
import Derived.Test.YtdhieolfdlkeaaaqY27
import Derived.Test.YtdhieolfdlkeaaaqZ27
namespace Go.Proofs.Ytdhieolfdlkeaaa
set_option linter.unusedSimpArgs false
set_option linter.unusedVariables false
attribute [local irreducible] SemK UnitK StK AlcK BslK CallK CallV Instr.box Builtin.append_ Instr.makeSlice Instr.makeMap Instr.lookup Instr.mapUpdate Instr.sliceAt convert
open Go.RowKit
def stepV (T : MC) : MC := match c65 with
  | .seq a (.seq b (.seq c _)) => .seq a (.seq b (.seq c T))
  | _ => .skip
theorem wrong_iff {d : Dl} (hr : Rt d) (b : UInt8) : wrongE d b.toNat = true ↔ (colM d b.toNat = 2 ∧ d.e = 1) ∨ (colM d b.toNat = 3 ∧ d.e = 2) := by
  obtain ⟨r1, r2, r3, r4, r5⟩ := hr
  have n1 : ¬ (13 : Int) = d.q := fun e => r1 e.symm
  have n2 : ¬ (10 : Int) = d.q := fun e => r2 e.symm
  have n3 : ¬ (13 : Int) = d.dl := fun e => r3 e.symm
  have n4 : ¬ (10 : Int) = d.dl := fun e => r4 e.symm
  rcases col_cases d b with ⟨e, h⟩ | ⟨e, h⟩ | ⟨e, h⟩ | ⟨e, h⟩ | ⟨e, h⟩ <;> rw [e]
  · rw [h]; simp [wrongE, r1, r2]
  · rw [h.2]; simp [wrongE, r3, r4]
  · rw [h]; simp [wrongE]
  · rw [h]; simp [wrongE]
  · simp [wrongE, h]
set_option maxHeartbeats 1000000 in
theorem rstep_p {n : Nat} {T : MC} {w : World} (d : Dl) (hr : Rt d) (st : Int) (b : UInt8)
    (hE : ¬ st = 3 → st < 5 → wrongE d b.toNat = true → tabV d st b = .tuple #[.agg #[I 0, I 0, I 0, I 0, I 0, I 0], I 0, I 6])
    (hT : ∀ {ρ' : Fr} {w' : World} {g3 g6 : Nat}, ρ' 0 = (.agg #[I d.dl, I d.q, I d.e]) → ρ' 1 = I st → ρ' 2 = I b.toNat → ρ' 3 = .pointer (some ⟨g3, 0, none⟩) → ρ' 6 = .pointer (some ⟨g6, 0, none⟩) → ρ' 9 = I (colM d b.toNat) → (¬ st = 3 → st < 5 → ¬ wrongE d b.toNat = true) →
      Sep w w' [boxC g6 116 [I 0, I 0, I 0, I 0, I 0, I 0], boxC g3 35 [I d.dl, I d.q, I d.e]] → G Try.prog Try.f65 n [.c T] (fun v w' => v = tabV d st b ∧ Ext w w') ρ' w') :
    G Try.prog Try.f65 n [.c (stepV T)] (fun v w' => v = tabV d st b ∧ Ext w w') (frL 0 [(.agg #[I d.dl, I d.q, I d.e]), I st, I b.toNat]) w := by
  unfold stepV c65
  dsimp only
  have hS := Sep.start w
  have hwi := wrong_iff hr b
  repeat' (first | ((with_reducible apply G.a); exact rfl) | refine G.reg fun K hK => ?_ | (with_reducible (refine hK _ _ ?_); clear hK K) | (with_reducible (refine hK _ ?_); clear hK K; intro wd hxd; have hS := Sep.xx hxd) | ((first | have hk := hK | have hk := hK2); clear hk; simp (disch := (first | exact dis | fail)) only [push_cast, ↓reduceIte, Nat.reduceAdd, Nat.reduceLeDiff, Nat.reduceEqDiff, Nat.reduceLT, Int.reduceToNat, fct]) | ((first | refine brO_n ?_ ?_ | refine brQ_n ?_ ?_) <;> intro hb hc <;> first | (with_reducible exact False.elim hc) | (exfalso; omega) | (simp only [hb]; clear hb)) | ((first | refine zalc ?_ | refine zbsl ?_ | ((with_reducible refine gBox ?_); refine zbox ?_)); intro gb wb hS) | ((with_reducible refine gSt ?_); refine zs2 ?_; intro wb hS) | (refine zcv ?_) | (refine zcp 95 (column_spec d _ _) ?_; intro wb hS) | (refine G.drt mixed fun K hK wd hxd => ?_; have hS := Sep.xx hxd) | with_reducible refine OT_leaf ?_ | (with_reducible refine OT_tail fun K2 hK2 => ?_) | (with_reducible (refine hK2 _ ?_); clear hK2 K2; intro wd hxd; have hS := Sep.xx hxd) | with_reducible refine OT_br fun K2 hK2 => ?_ | (refine hK2 _ _ ?_ ?_ <;> clear hK2 K2) | refine G.drg mixed fun K hK => ?_ | (refine G.cn ?_ ?_ <;> intro hc <;> first | (with_reducible exact False.elim hc) | (exfalso; omega) | skip))
  all_goals first
    | exact hT (by simp only [push_cast, ↓reduceIte, Nat.reduceAdd, Nat.reduceLeDiff, Nat.reduceEqDiff, Nat.reduceLT, Int.reduceToNat]) (by simp only [push_cast, ↓reduceIte, Nat.reduceAdd, Nat.reduceLeDiff, Nat.reduceEqDiff, Nat.reduceLT, Int.reduceToNat]) (by simp only [push_cast, ↓reduceIte, Nat.reduceAdd, Nat.reduceLeDiff, Nat.reduceEqDiff, Nat.reduceLT, Int.reduceToNat]) (by simp only [push_cast, ↓reduceIte, Nat.reduceAdd, Nat.reduceLeDiff, Nat.reduceEqDiff, Nat.reduceLT, Int.reduceToNat] <;> rfl) (by simp only [push_cast, ↓reduceIte, Nat.reduceAdd, Nat.reduceLeDiff, Nat.reduceEqDiff, Nat.reduceLT, Int.reduceToNat] <;> rfl) (by simp only [push_cast, ↓reduceIte, Nat.reduceAdd, Nat.reduceLeDiff, Nat.reduceEqDiff, Nat.reduceLT, Int.reduceToNat]) (fun _ _ h => by have := hwi.1 h; omega) (Sep.sub hS (.c (by repeat constructor) (.c (by repeat constructor) .n)))
    | (((first | apply G.rv1 rfl | apply G.rv2 rfl | apply G.rv3 rfl | apply G.ret0 rfl) <;> first | exact RV.tmp | exact zag2 | skip); (try simp (disch := (first | exact dis | fail)) only [push_cast, ↓reduceIte, Nat.reduceAdd, Nat.reduceLeDiff, Nat.reduceEqDiff, Nat.reduceLT, Int.reduceToNat, fct]); exact ⟨(hE (by omega) (by omega) (hwi.2 (by omega))).symm, Sep.xt (by assumption)⟩)
theorem rstep_spec (d : Dl) (hr : Rt d) (st : Int) (b : UInt8) (w : World) (hs : st = 0 ∨ st = 1 ∨ st = 2 ∨ st = 3 ∨ st = 4 ∨ st = 5 ∨ st = 6) : Pu Try.prog 65 #[(.agg #[I d.dl, I d.q, I d.e]), I st, I b.toNat] w (tabV d st b) := by
  refine in65 ?_
  change G _ _ _ [.c (stepV (tabC stepE))] _ _ _
  rcases hs with rfl | rfl | rfl | rfl | rfl | rfl | rfl
  · refine rstep_p d hr 0 b (fun h1 h2 hw => by first | (exfalso; omega) | simp [tabV, scM, startM, inM, hw, b2i]) ?_
    intro ρ' w' g3 g6 q0 q1 q2 q3 q6 q9 hn hS
    exact rstep_t0 d hr b q0 q1 q2 q3 q6 q9 (hn (by decide) (by decide)) hS fun p6 p18 p19 hS2 e => G.mono (rstep_e (L := []) p6 p18 p19 hS2) fun v w' ⟨h1, h2⟩ => ⟨h1.trans e.symm, h2⟩
  · refine rstep_p d hr 1 b (fun h1 h2 hw => by first | (exfalso; omega) | simp [tabV, scM, startM, inM, hw, b2i]) ?_
    intro ρ' w' g3 g6 q0 q1 q2 q3 q6 q9 hn hS
    exact rstep_t1 d hr b q0 q1 q2 q3 q6 q9 (hn (by decide) (by decide)) hS fun p6 p18 p19 hS2 e => G.mono (rstep_e (L := []) p6 p18 p19 hS2) fun v w' ⟨h1, h2⟩ => ⟨h1.trans e.symm, h2⟩
  · refine rstep_p d hr 2 b (fun h1 h2 hw => by first | (exfalso; omega) | simp [tabV, scM, startM, inM, hw, b2i]) ?_
    intro ρ' w' g3 g6 q0 q1 q2 q3 q6 q9 hn hS
    exact rstep_t2 d hr b q0 q1 q2 q3 q6 q9 (hn (by decide) (by decide)) hS fun p6 p18 p19 hS2 e => G.mono (rstep_e (L := []) p6 p18 p19 hS2) fun v w' ⟨h1, h2⟩ => ⟨h1.trans e.symm, h2⟩
  · refine rstep_p d hr 3 b (fun h1 h2 hw => by first | (exfalso; omega) | simp [tabV, scM, startM, inM, hw, b2i]) ?_
    intro ρ' w' g3 g6 q0 q1 q2 q3 q6 q9 hn hS
    exact rstep_t3 d hr b q0 q1 q2 q3 q6 q9 trivial hS fun p6 p18 p19 hS2 e => G.mono (rstep_e (L := []) p6 p18 p19 hS2) fun v w' ⟨h1, h2⟩ => ⟨h1.trans e.symm, h2⟩
  · refine rstep_p d hr 4 b (fun h1 h2 hw => by first | (exfalso; omega) | simp [tabV, scM, startM, inM, hw, b2i]) ?_
    intro ρ' w' g3 g6 q0 q1 q2 q3 q6 q9 hn hS
    exact rstep_t4 d hr b q0 q1 q2 q3 q6 q9 (hn (by decide) (by decide)) hS fun p6 p18 p19 hS2 e => G.mono (rstep_e (L := []) p6 p18 p19 hS2) fun v w' ⟨h1, h2⟩ => ⟨h1.trans e.symm, h2⟩
  · refine rstep_p d hr 5 b (fun h1 h2 hw => by first | (exfalso; omega) | simp [tabV, scM, startM, inM, hw, b2i]) ?_
    intro ρ' w' g3 g6 q0 q1 q2 q3 q6 q9 hn hS
    exact rstep_t5 d hr b q0 q1 q2 q3 q6 q9 trivial hS fun p6 p18 p19 hS2 e => G.mono (rstep_e (L := []) p6 p18 p19 hS2) fun v w' ⟨h1, h2⟩ => ⟨h1.trans e.symm, h2⟩
  · refine rstep_p d hr 6 b (fun h1 h2 hw => by first | (exfalso; omega) | simp [tabV, scM, startM, inM, hw, b2i]) ?_
    intro ρ' w' g3 g6 q0 q1 q2 q3 q6 q9 hn hS
    exact rstep_t6 d hr b q0 q1 q2 q3 q6 q9 trivial hS fun p6 p18 p19 hS2 e => G.mono (rstep_e (L := []) p6 p18 p19 hS2) fun v w' ⟨h1, h2⟩ => ⟨h1.trans e.symm, h2⟩
end Go.Proofs.Ytdhieolfdlkeaaa
