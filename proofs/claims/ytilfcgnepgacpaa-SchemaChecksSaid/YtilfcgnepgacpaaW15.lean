/- Chapter 15: walks. -/
import Derived.Test.YtilfcgnepgacpaaTy
import Derived.Test.YtilfcgnepgacpaaP15
import Derived.Test.YtilfcgnepgacpaaS02
import Derived.Test.YtilfcgnepgacpaaW02
namespace Go.Proofs.Ytilfcgnepgacpaa
set_option linter.unusedSimpArgs false
set_option linter.unusedVariables false
attribute [local irreducible] SemK UnitK StK AlcK BslK CallK Instr.box Builtin.append_ Instr.makeSlice Instr.makeMap Instr.lookup Instr.mapUpdate Instr.sliceAt convert
open Go.RowKit
def c35l1 : MC := (.seq (.reg [qq 10 (.bin .lss (.tmp 9) (.tmp 8))]) (.seq (.cond (.tmp 10) .skip (.exit 0)) (.seq (.blk 1 (.seq (.reg [qm 11 9, qq 12 (.adr 1 (.tmp 7) (.tmp 9)), qq 13 (.ld none (.tmp 12)), qm 5 11, qm 6 13]) (.seq (.reg [qm 14 6, qm 15 1, qq 16 (.bin .eql (.tmp 14) (.tmp 15))]) (.cond (.tmp 16) (.seq (.reg [qm 17 5, qm 4 17]) .ret) .skip)))) (.reg [qq 18 (.bin .add (.tmp 9) (ki 1)), qm 9 18]))))
def c35 : MC := (.seq (.reg [qq 4 (.mv (ki 0))]) (.seq (.seq (.reg [qm 7 0, qq 8 (.len (.tmp 7)), qq 9 (.mv (ki 0))]) (.blk 0 (.loop c35l1))) (.seq (.reg [qq 4 (.mv (ki (-1)))]) .ret)))
theorem k35 : conv Try.prog 19 (Try.f35.body.getD .skip) = c35 := by kernel_rfl
theorem in35 {a0 a1 : Value} {w : World} {R : Value → World → Prop} (h : G Try.prog Try.f35 19 [.c c35] R (frL 0 [a0, a1]) w) : Ret Try.prog 35 #[a0, a1] w R := G.enter (args := [a0, a1]) Try.func35 (c := Try.f35.body.getD .skip) (by kernel_rfl) (by kernel_rfl) (by simp) k35 h
theorem rat_spec {v : Value} {names : List Str} {w : World} (hr : Rd w eS v names) (name : Str) : Pu Try.prog 35 #[v, S name] w (I (atM names name)) := by
  refine in35 ?_
  have hS := Sep.start w
  have hbd := hr.bd
  repeat' (first | refine G.seq ?_ | refine G.blk ?_ | refine G.endb ?_ | refine G.skip ?_ | refine G.exit rfl ?_ | refine G.reg fun K hK => ?_ | (with_reducible (refine hK _ _ ?_); clear hK K) | (with_reducible (refine hK _ ?_); clear hK K; intro wd hxd; have hS := Sep.ext (by assumption) hxd) | (have hk := hK; clear hk; simp (disch := (first | exact dis | fail)) only [push_cast, ↓reduceIte, Nat.reduceAdd, Nat.reduceLeDiff, Nat.reduceEqDiff, Nat.reduceLT, Int.reduceToNat]) | ((first | refine brO_mk ?_ ?_ | refine brQ_mk ?_ ?_) <;> intro hb <;> (try simp only [Bool.not_eq_true', Bool.not_eq_false'] at hb) <;> have hc := hb <;> (try simp only [hcs, reduceCtorEq] at hc) <;> (try (exfalso; omega)) <;> simp only [hb] <;> clear hb) | (refine zalc ?_; intro gb wb hS) | (refine zbsl ?_; intro gb wb hS) | ((with_reducible (show SemK _ (Instr.box _ _) _ _ _ _)); refine zbox ?_; intro gb wb hS) | ((with_reducible (show StK _ _ (Value.pointer _) _ _ _ _ _)); refine zst ?_; intro wb hS; (try simp only [sets] at hS))  | (refine G.drt mixed fun K hK wd hxd => ?_; have hS := Sep.ext (by assumption) hxd) | with_reducible refine OT_leaf ?_ | with_reducible refine OT_br fun K2 hK2 => ?_ | (refine hK2 _ _ ?_ ?_ <;> clear hK2 K2) | refine G.drg mixed fun K hK => ?_ | (refine G.cond (by simp only [push_cast, ↓reduceIte, Nat.reduceAdd, Nat.reduceLeDiff, Nat.reduceEqDiff, Nat.reduceLT, Int.reduceToNat]; rfl) ?_ ?_ <;> intro hc <;> (try simp only [hcs, reduceCtorEq] at hc) <;> (try (exfalso; omega))))
  refine G.loop (fun r w' => ∃ k : Nat, k ≤ names.length ∧ r 9 = I k ∧ r 8 = I names.length ∧ r 7 = v ∧ r 1 = S name ∧ atM names name = atF (names.drop k) name k ∧ Sep w w' []) (fun r _ => names.length - toN (r 9)) ?_ ?_
  · refine ⟨0, ?_⟩
    ((repeat' apply And.intro) <;> first | exact dj | (simp only [push_cast, ↓reduceIte, Nat.reduceAdd, Nat.reduceLeDiff, Nat.reduceEqDiff, Nat.reduceLT, Int.reduceToNat] <;> omega) | skip)
    rfl
  · rintro u wl ⟨k, hk, h9, h8, h7, h1, e, hS⟩ ih
    repeat' (first | refine G.seq ?_ | refine G.blk ?_ | refine G.endb ?_ | refine G.skip ?_ | refine G.exit rfl ?_ | refine G.reg fun K hK => ?_ | (with_reducible (refine hK _ _ ?_); clear hK K) | (with_reducible (refine hK _ ?_); clear hK K; intro wd hxd; have hS := Sep.ext (by assumption) hxd) | (have hk := hK; clear hk; simp (disch := (first | exact dis | fail)) only [push_cast, ↓reduceIte, Nat.reduceAdd, Nat.reduceLeDiff, Nat.reduceEqDiff, Nat.reduceLT, Int.reduceToNat, h9, h8, h7, h1]) | ((first | refine brO_mk ?_ ?_ | refine brQ_mk ?_ ?_) <;> intro hb <;> (try simp only [Bool.not_eq_true', Bool.not_eq_false'] at hb) <;> have hc := hb <;> (try simp only [hcs, reduceCtorEq] at hc) <;> (try (exfalso; omega)) <;> simp only [hb] <;> clear hb) | (refine zalc ?_; intro gb wb hS) | (refine zbsl ?_; intro gb wb hS) | ((with_reducible (show SemK _ (Instr.box _ _) _ _ _ _)); refine zbox ?_; intro gb wb hS) | ((with_reducible (show StK _ _ (Value.pointer _) _ _ _ _ _)); refine zst ?_; intro wb hS; (try simp only [sets] at hS))  | (refine G.drt mixed fun K hK wd hxd => ?_; have hS := Sep.ext (by assumption) hxd) | with_reducible refine OT_leaf ?_ | with_reducible refine OT_br fun K2 hK2 => ?_ | (refine hK2 _ _ ?_ ?_ <;> clear hK2 K2) | refine G.drg mixed fun K hK => ?_ | (refine G.cond (by simp only [push_cast, ↓reduceIte, Nat.reduceAdd, Nat.reduceLeDiff, Nat.reduceEqDiff, Nat.reduceLT, Int.reduceToNat, h9, h8, h7, h1]; rfl) ?_ ?_ <;> intro hc <;> (try simp only [hcs, reduceCtorEq] at hc) <;> (try (exfalso; omega))))
    · ((first | apply G.rv1 rfl | apply G.rv2 rfl | apply G.rv3 rfl | apply G.ret0 rfl) <;> (first | exact RV.tmp | exact zag (by simp only [push_cast, ↓reduceIte, Nat.reduceAdd, Nat.reduceLeDiff, Nat.reduceEqDiff, Nat.reduceLT, Int.reduceToNat, h9, h8, h7, h1]; rfl) | skip)); (try simp (disch := (first | exact dis | fail)) only [push_cast, ↓reduceIte, Nat.reduceAdd, Nat.reduceLeDiff, Nat.reduceEqDiff, Nat.reduceLT, Int.reduceToNat, h9, h8, h7, h1])
      (refine ⟨?_, Sep.xt (by assumption)⟩)
      rw [e, dropD _ _ ‹_›, atF, if_pos hc]
    · (refine ih _ _ ⟨k + 1, ?_⟩ ?_; rotate_left; (focus ((simp only [push_cast, ↓reduceIte, Nat.reduceAdd, Nat.reduceLeDiff, Nat.reduceEqDiff, Nat.reduceLT, Int.reduceToNat, toN_i, h9, h8, h7, h1] <;> omega))); ((repeat' apply And.intro) <;> first | exact dj | (simp only [push_cast, ↓reduceIte, Nat.reduceAdd, Nat.reduceLeDiff, Nat.reduceEqDiff, Nat.reduceLT, Int.reduceToNat, h9, h8, h7, h1] <;> omega) | skip))
      rw [e, dropD _ _ ‹_›, atF, if_neg hc]
    · ((first | apply G.rv1 rfl | apply G.rv2 rfl | apply G.rv3 rfl | apply G.ret0 rfl) <;> (first | exact RV.tmp | exact zag (by simp only [push_cast, ↓reduceIte, Nat.reduceAdd, Nat.reduceLeDiff, Nat.reduceEqDiff, Nat.reduceLT, Int.reduceToNat, h9, h8, h7, h1]; rfl) | skip)); (try simp (disch := (first | exact dis | fail)) only [push_cast, ↓reduceIte, Nat.reduceAdd, Nat.reduceLeDiff, Nat.reduceEqDiff, Nat.reduceLT, Int.reduceToNat, h9, h8, h7, h1])
      (refine ⟨?_, Sep.xt (by assumption)⟩)
      rw [e, List.drop_eq_nil_of_le (by omega)]; rfl
end Go.Proofs.Ytilfcgnepgacpaa
