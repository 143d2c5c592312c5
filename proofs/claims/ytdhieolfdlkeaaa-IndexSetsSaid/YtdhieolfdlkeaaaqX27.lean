/- Texts of the proof, joined. -/
import Derived.Test.YtdhieolfdlkeaaaqV27
namespace Go.Proofs.Ytdhieolfdlkeaaa
set_option linter.unusedSimpArgs false
set_option linter.unusedVariables false
attribute [local irreducible] SemK UnitK StK AlcK BslK CallK CallV Instr.box Builtin.append_ Instr.makeSlice Instr.makeMap Instr.lookup Instr.mapUpdate Instr.sliceAt convert
open Go.RowKit
set_option maxHeartbeats 4000000 in
theorem rstep_t1 {n g3 g6 : Nat} {ρ : Fr} {w w0 : World} {T : MC} {R : Value → World → Prop} (d : Dl) (hr : Rt d) (b : UInt8) (q0 : ρ 0 = (.agg #[I d.dl, I d.q, I d.e])) (q1 : ρ 1 = I 1) (q2 : ρ 2 = I b.toNat) (q3 : ρ 3 = .pointer (some ⟨g3, 0, none⟩)) (q6 : ρ 6 = .pointer (some ⟨g6, 0, none⟩)) (q9 : ρ 9 = I (colM d b.toNat))
    (hn : ¬ wrongE d b.toNat = true) (hS : Sep w0 w [boxC g6 116 [I 0, I 0, I 0, I 0, I 0, I 0], boxC g3 35 [I d.dl, I d.q, I d.e]])
    (hT : ∀ {ρ' : Fr} {w' : World} {g18 g19 : Nat} {x0 x1 x2 x3 x4 x5 x6 y0 y1 y2 y3 y4 y5 : Int}, ρ' 6 = .pointer (some ⟨g6, 0, none⟩) → ρ' 18 = .pointer (some ⟨g18, 0, none⟩) → ρ' 19 = .pointer (some ⟨g19, 0, none⟩) →
      Sep w0 w' [boxC g18 155 [I x0, I x1, I x2, I x3, I x4, I x5, I x6], boxC g19 116 [I y0, I y1, I y2, I y3, I y4, I y5], boxC g6 116 [I 0, I 0, I 0, I 0, I 0, I 0]] →
      tabV d 1 b = .tuple #[.agg #[I y0, I y1, I y2, I y3, I y4, I y5], I x5, I x6] → G Try.prog Try.f65 n [.c T] R ρ' w') :
    G Try.prog Try.f65 n [.c (tabC T)] R ρ w := by
  unfold tabC stepT c65
  dsimp only
  obtain ⟨r1, r2, r3, r4, r5⟩ := hr
  have n1 : ¬ (13 : Int) = d.q := fun e => r1 e.symm
  have n2 : ¬ (10 : Int) = d.q := fun e => r2 e.symm
  have n3 : ¬ (13 : Int) = d.dl := fun e => r3 e.symm
  have n4 : ¬ (10 : Int) = d.dl := fun e => r4 e.symm
  rcases col_cases d b with ⟨e, h⟩ | ⟨e, h⟩ | ⟨e, h⟩ | ⟨e, h⟩ | ⟨e, h⟩
  all_goals
    repeat' (first | ((with_reducible apply G.a); exact rfl) | refine G.reg fun K hK => ?_ | (with_reducible (refine hK _ _ ?_); clear hK K) | (with_reducible (refine hK _ ?_); clear hK K; intro wd hxd; have hS := Sep.ext (by assumption) hxd) | ((first | have hk := hK | have hk := hK2); clear hk; simp (disch := (first | exact dis | fail)) only [push_cast, ↓reduceIte, Nat.reduceAdd, Nat.reduceLeDiff, Nat.reduceEqDiff, Nat.reduceLT, Int.reduceToNat, q0, q1, q2, q3, q6, q9, e, Nat.reduceMul]) | ((first | refine brO_mk ?_ ?_ | refine brQ_mk ?_ ?_) <;> intro hb <;> (try simp only [Bool.not_eq_true', Bool.not_eq_false'] at hb) <;> have hc := hb <;> (try simp only [hcs, reduceCtorEq] at hc) <;> (try (exfalso; omega)) <;> simp only [hb] <;> clear hb) | (refine zalc ?_; intro gb wb hS) | (refine zbsl ?_; intro gb wb hS) | ((with_reducible (show SemK _ (Instr.box _ _) _ _ _ _)); refine zbox ?_; intro gb wb hS) | ((with_reducible (show StK _ _ (Value.pointer _) _ _ _ _ _)); refine zst ?_; intro wb hS; (try simp only [sets] at hS)) | (refine zcv ?_)  | (refine G.drt mixed fun K hK wd hxd => ?_; have hS := Sep.ext (by assumption) hxd) | with_reducible refine OT_leaf ?_ | (with_reducible refine OT_tail fun K2 hK2 => ?_) | (with_reducible (refine hK2 _ ?_); clear hK2 K2; intro wd hxd; have hS := Sep.ext (by assumption) hxd) | with_reducible refine OT_br fun K2 hK2 => ?_ | (refine hK2 _ _ ?_ ?_ <;> clear hK2 K2) | refine G.drg mixed fun K hK => ?_ | (refine G.cond (by simp only [push_cast, ↓reduceIte, Nat.reduceAdd, Nat.reduceLeDiff, Nat.reduceEqDiff, Nat.reduceLT, Int.reduceToNat, q0, q1, q2, q3, q6, q9, e, Nat.reduceMul]; rfl) ?_ ?_ <;> intro hc <;> (try simp only [hcs, reduceCtorEq] at hc) <;> (try (exfalso; omega))))
    all_goals
      (refine hT (by simp only [push_cast, ↓reduceIte, Nat.reduceAdd, Nat.reduceLeDiff, Nat.reduceEqDiff, Nat.reduceLT, Int.reduceToNat, q6]) (by simp only [push_cast, ↓reduceIte, Nat.reduceAdd, Nat.reduceLeDiff, Nat.reduceEqDiff, Nat.reduceLT, Int.reduceToNat] <;> rfl) (by simp only [push_cast, ↓reduceIte, Nat.reduceAdd, Nat.reduceLeDiff, Nat.reduceEqDiff, Nat.reduceLT, Int.reduceToNat] <;> rfl) (Sep.sub hS (.c (by repeat constructor) (.c (by repeat constructor) (.c (by repeat constructor) .n)))) ?_)
      (clear hS hT; (try unfold wrongE at hn); simp [tabV, scM, startM, inM, wrongE, b2i, h, n1, n2, n3, n4, r1, r2, r3, r4, r5] <;> simp_all)
set_option maxHeartbeats 4000000 in
theorem rstep_t2 {n g3 g6 : Nat} {ρ : Fr} {w w0 : World} {T : MC} {R : Value → World → Prop} (d : Dl) (hr : Rt d) (b : UInt8) (q0 : ρ 0 = (.agg #[I d.dl, I d.q, I d.e])) (q1 : ρ 1 = I 2) (q2 : ρ 2 = I b.toNat) (q3 : ρ 3 = .pointer (some ⟨g3, 0, none⟩)) (q6 : ρ 6 = .pointer (some ⟨g6, 0, none⟩)) (q9 : ρ 9 = I (colM d b.toNat))
    (hn : ¬ wrongE d b.toNat = true) (hS : Sep w0 w [boxC g6 116 [I 0, I 0, I 0, I 0, I 0, I 0], boxC g3 35 [I d.dl, I d.q, I d.e]])
    (hT : ∀ {ρ' : Fr} {w' : World} {g18 g19 : Nat} {x0 x1 x2 x3 x4 x5 x6 y0 y1 y2 y3 y4 y5 : Int}, ρ' 6 = .pointer (some ⟨g6, 0, none⟩) → ρ' 18 = .pointer (some ⟨g18, 0, none⟩) → ρ' 19 = .pointer (some ⟨g19, 0, none⟩) →
      Sep w0 w' [boxC g18 155 [I x0, I x1, I x2, I x3, I x4, I x5, I x6], boxC g19 116 [I y0, I y1, I y2, I y3, I y4, I y5], boxC g6 116 [I 0, I 0, I 0, I 0, I 0, I 0]] →
      tabV d 2 b = .tuple #[.agg #[I y0, I y1, I y2, I y3, I y4, I y5], I x5, I x6] → G Try.prog Try.f65 n [.c T] R ρ' w') :
    G Try.prog Try.f65 n [.c (tabC T)] R ρ w := by
  unfold tabC stepT c65
  dsimp only
  obtain ⟨r1, r2, r3, r4, r5⟩ := hr
  have n1 : ¬ (13 : Int) = d.q := fun e => r1 e.symm
  have n2 : ¬ (10 : Int) = d.q := fun e => r2 e.symm
  have n3 : ¬ (13 : Int) = d.dl := fun e => r3 e.symm
  have n4 : ¬ (10 : Int) = d.dl := fun e => r4 e.symm
  rcases col_cases d b with ⟨e, h⟩ | ⟨e, h⟩ | ⟨e, h⟩ | ⟨e, h⟩ | ⟨e, h⟩
  all_goals
    repeat' (first | ((with_reducible apply G.a); exact rfl) | refine G.reg fun K hK => ?_ | (with_reducible (refine hK _ _ ?_); clear hK K) | (with_reducible (refine hK _ ?_); clear hK K; intro wd hxd; have hS := Sep.ext (by assumption) hxd) | ((first | have hk := hK | have hk := hK2); clear hk; simp (disch := (first | exact dis | fail)) only [push_cast, ↓reduceIte, Nat.reduceAdd, Nat.reduceLeDiff, Nat.reduceEqDiff, Nat.reduceLT, Int.reduceToNat, q0, q1, q2, q3, q6, q9, e, Nat.reduceMul]) | ((first | refine brO_mk ?_ ?_ | refine brQ_mk ?_ ?_) <;> intro hb <;> (try simp only [Bool.not_eq_true', Bool.not_eq_false'] at hb) <;> have hc := hb <;> (try simp only [hcs, reduceCtorEq] at hc) <;> (try (exfalso; omega)) <;> simp only [hb] <;> clear hb) | (refine zalc ?_; intro gb wb hS) | (refine zbsl ?_; intro gb wb hS) | ((with_reducible (show SemK _ (Instr.box _ _) _ _ _ _)); refine zbox ?_; intro gb wb hS) | ((with_reducible (show StK _ _ (Value.pointer _) _ _ _ _ _)); refine zst ?_; intro wb hS; (try simp only [sets] at hS)) | (refine zcv ?_)  | (refine G.drt mixed fun K hK wd hxd => ?_; have hS := Sep.ext (by assumption) hxd) | with_reducible refine OT_leaf ?_ | (with_reducible refine OT_tail fun K2 hK2 => ?_) | (with_reducible (refine hK2 _ ?_); clear hK2 K2; intro wd hxd; have hS := Sep.ext (by assumption) hxd) | with_reducible refine OT_br fun K2 hK2 => ?_ | (refine hK2 _ _ ?_ ?_ <;> clear hK2 K2) | refine G.drg mixed fun K hK => ?_ | (refine G.cond (by simp only [push_cast, ↓reduceIte, Nat.reduceAdd, Nat.reduceLeDiff, Nat.reduceEqDiff, Nat.reduceLT, Int.reduceToNat, q0, q1, q2, q3, q6, q9, e, Nat.reduceMul]; rfl) ?_ ?_ <;> intro hc <;> (try simp only [hcs, reduceCtorEq] at hc) <;> (try (exfalso; omega))))
    all_goals
      (refine hT (by simp only [push_cast, ↓reduceIte, Nat.reduceAdd, Nat.reduceLeDiff, Nat.reduceEqDiff, Nat.reduceLT, Int.reduceToNat, q6]) (by simp only [push_cast, ↓reduceIte, Nat.reduceAdd, Nat.reduceLeDiff, Nat.reduceEqDiff, Nat.reduceLT, Int.reduceToNat] <;> rfl) (by simp only [push_cast, ↓reduceIte, Nat.reduceAdd, Nat.reduceLeDiff, Nat.reduceEqDiff, Nat.reduceLT, Int.reduceToNat] <;> rfl) (Sep.sub hS (.c (by repeat constructor) (.c (by repeat constructor) (.c (by repeat constructor) .n)))) ?_)
      (clear hS hT; (try unfold wrongE at hn); simp [tabV, scM, startM, inM, wrongE, b2i, h, n1, n2, n3, n4, r1, r2, r3, r4, r5] <;> simp_all)
end Go.Proofs.Ytdhieolfdlkeaaa
