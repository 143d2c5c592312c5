/- Texts of the proof, joined. -/
import Derived.Test.YtdikpaochhacmaaDoorqR02
import Derived.Test.YtdikpaochhacmaaDoorqW02
namespace Go.Proofs.YtdikpaochhacmaaDoor
set_option linter.unusedSimpArgs false
set_option linter.unusedVariables false
attribute [local irreducible] SemK UnitK StK AlcK BslK CallK CallV Instr.box Builtin.append_ Instr.makeSlice Instr.makeMap Instr.lookup Instr.mapUpdate Instr.sliceAt convert
open Go.RowKit
def c38 : MC := (.seq (.reg [qq 2 (.mv (kb false))]) (.seq (.reg [qm 3 0, qq 4 (.bin .eql (.tmp 3) (ki 1)), qm 5 4, qmf 5 6 0, qf 5 7 (.bin .eql (.tmp 6) (ki 2)), qq 8 (.pick (.tmp 5) (kb true) (.tmp 7)), qm 9 8, qmf 9 10 0, qf 9 11 (.bin .eql (.tmp 10) (ki 3)), qq 12 (.pick (.tmp 9) (kb true) (.tmp 11)), qm 2 12]) .ret))
theorem k38 : conv Tryd.prog 13 (Tryd.f38.body.getD .skip) = c38 := by kernel_rfl
theorem in38 {a0 : Value} {w : World} {R : Value → World → Prop} (h : G Tryd.prog Tryd.f38 13 [.c c38] R (frL 0 [a0]) w) : Ret Tryd.prog 38 #[a0] w R := G.enter (args := [a0]) Tryd.func38 (c := Tryd.f38.body.getD .skip) (by kernel_rfl) (by kernel_rfl) (by simp) k38 h
theorem known_spec (k : Int) (w : World) : Pu Tryd.prog 38 #[I k] w (.bool (decide (1 ≤ k ∧ k ≤ 3))) := by
  refine in38 ?_
  have hS := Sep.start w
  repeat' (first | ((with_reducible apply G.a); exact rfl) | refine G.reg fun K hK => ?_ | (with_reducible (refine hK _ _ ?_); clear hK K) | (have hk := hK; clear hk; simp (disch := first | exact dis | fail) only [push_cast, ↓reduceIte, Nat.reduceAdd, Nat.reduceLeDiff, Nat.reduceEqDiff, Nat.reduceLT, Int.reduceToNat, fct]) | (refine brO_n ?_ ?_ <;> intro hb hc <;> first | (with_reducible exact False.elim hc) | (exfalso; omega) | (simp only [hb]; clear hb)))
  all_goals
    (first | refine G.r1 ?_ | refine G.r2 ?_ | refine G.r3 ?_ | refine G.r0 ?_ | refine G.d0 ?_); (try simp (disch := first | exact dis | fail) only [push_cast, ↓reduceIte, Nat.reduceAdd, Nat.reduceLeDiff, Nat.reduceEqDiff, Nat.reduceLT, Int.reduceToNat, fct])
    refine ⟨?_, Sep.xt (by assumption)⟩
    congr 1
    rw [Bool.eq_iff_iff]
    simp only [beq_iff_eq, decide_eq_true_eq, true_iff]
    omega
def c43 : MC := (.seq (.reg [qq 2 (.alc 31 [(.int .i64 0), (S []), (.int .i64 0), (.bool false)])]) (.seq (.reg [qm 3 0, qq 4 (.bld [(.int .i64 0), (S []), (.int .i64 0), (.bool false)] [⟨0, ⟨1, (ki 1)⟩⟩, ⟨1, ⟨1, (.tmp 3)⟩⟩]), qn (.st 4 (.tmp 2) (.tmp 4))]) .ret))
theorem k43 : conv Tryd.prog 5 (Tryd.f43.body.getD .skip) = c43 := by kernel_rfl
theorem in43 {a0 : Value} {w : World} {R : Value → World → Prop} (h : G Tryd.prog Tryd.f43 5 [.c c43] R (frL 0 [a0]) w) : Ret Tryd.prog 43 #[a0] w R := G.enter (args := [a0]) Tryd.func43 (c := Tryd.f43.body.getD .skip) (by kernel_rfl) (by kernel_rfl) (by simp) k43 h
theorem text17_spec (s : Str) (w : World) : Pu Tryd.prog 43 #[S s] w (.agg #[I 1, S s, I 0, .bool false]) := by
  refine in43 ?_
  have hS := Sep.start w
  repeat' (first | ((with_reducible apply G.a); exact rfl) | refine G.reg fun K hK => ?_ | (with_reducible (refine hK _ _ ?_); clear hK K) | (have hk := hK; clear hk; simp (disch := first | exact dis | fail) only [push_cast, ↓reduceIte, Nat.reduceAdd, Nat.reduceLeDiff, Nat.reduceEqDiff, Nat.reduceLT, Int.reduceToNat, fct]) | (refine zalc ?_; intro gb wb hS) | ((with_reducible refine gSt ?_); refine zs2 ?_; intro wb hS))
  (first | refine G.r1 ?_ | refine G.r2 ?_ | refine G.r3 ?_ | refine G.r0 ?_ | refine G.d0 ?_); (try simp (disch := first | exact dis | fail) only [push_cast, ↓reduceIte, Nat.reduceAdd, Nat.reduceLeDiff, Nat.reduceEqDiff, Nat.reduceLT, Int.reduceToNat, fct])
  (first | exact Sep.xt (by assumption) | exact ⟨rfl, Sep.xt (by assumption)⟩)
def c40 : MC := (.seq (.reg [qq 2 (.alc 31 [(.int .i64 0), (S []), (.int .i64 0), (.bool false)])]) (.seq (.reg [qm 3 0, qq 4 (.bld [(.int .i64 0), (S []), (.int .i64 0), (.bool false)] [⟨0, ⟨1, (ki 2)⟩⟩, ⟨2, ⟨1, (.tmp 3)⟩⟩]), qn (.st 4 (.tmp 2) (.tmp 4))]) .ret))
theorem k40 : conv Tryd.prog 5 (Tryd.f40.body.getD .skip) = c40 := by kernel_rfl
theorem in40 {a0 : Value} {w : World} {R : Value → World → Prop} (h : G Tryd.prog Tryd.f40 5 [.c c40] R (frL 0 [a0]) w) : Ret Tryd.prog 40 #[a0] w R := G.enter (args := [a0]) Tryd.func40 (c := Tryd.f40.body.getD .skip) (by kernel_rfl) (by kernel_rfl) (by simp) k40 h
theorem int17_spec (n : Int) (w : World) : Pu Tryd.prog 40 #[I n] w (.agg #[I 2, S [], I n, .bool false]) := by
  refine in40 ?_
  have hS := Sep.start w
  repeat' (first | ((with_reducible apply G.a); exact rfl) | refine G.reg fun K hK => ?_ | (with_reducible (refine hK _ _ ?_); clear hK K) | (have hk := hK; clear hk; simp (disch := first | exact dis | fail) only [push_cast, ↓reduceIte, Nat.reduceAdd, Nat.reduceLeDiff, Nat.reduceEqDiff, Nat.reduceLT, Int.reduceToNat, fct]) | (refine zalc ?_; intro gb wb hS) | ((with_reducible refine gSt ?_); refine zs2 ?_; intro wb hS))
  (first | refine G.r1 ?_ | refine G.r2 ?_ | refine G.r3 ?_ | refine G.r0 ?_ | refine G.d0 ?_); (try simp (disch := first | exact dis | fail) only [push_cast, ↓reduceIte, Nat.reduceAdd, Nat.reduceLeDiff, Nat.reduceEqDiff, Nat.reduceLT, Int.reduceToNat, fct])
  (first | exact Sep.xt (by assumption) | exact ⟨rfl, Sep.xt (by assumption)⟩)
def c41 : MC := (.seq (.reg [qq 2 (.alc 31 [(.int .i64 0), (S []), (.int .i64 0), (.bool false)])]) (.seq (.reg [qm 3 0, qq 4 (.bld [(.int .i64 0), (S []), (.int .i64 0), (.bool false)] [⟨0, ⟨1, (ki 3)⟩⟩, ⟨3, ⟨1, (.tmp 3)⟩⟩]), qn (.st 4 (.tmp 2) (.tmp 4))]) .ret))
theorem k41 : conv Tryd.prog 5 (Tryd.f41.body.getD .skip) = c41 := by kernel_rfl
theorem in41 {a0 : Value} {w : World} {R : Value → World → Prop} (h : G Tryd.prog Tryd.f41 5 [.c c41] R (frL 0 [a0]) w) : Ret Tryd.prog 41 #[a0] w R := G.enter (args := [a0]) Tryd.func41 (c := Tryd.f41.body.getD .skip) (by kernel_rfl) (by kernel_rfl) (by simp) k41 h
theorem bool17_spec (b : Bool) (w : World) : Pu Tryd.prog 41 #[.bool b] w (.agg #[I 3, S [], I 0, .bool b]) := by
  refine in41 ?_
  have hS := Sep.start w
  repeat' (first | ((with_reducible apply G.a); exact rfl) | refine G.reg fun K hK => ?_ | (with_reducible (refine hK _ _ ?_); clear hK K) | (have hk := hK; clear hk; simp (disch := first | exact dis | fail) only [push_cast, ↓reduceIte, Nat.reduceAdd, Nat.reduceLeDiff, Nat.reduceEqDiff, Nat.reduceLT, Int.reduceToNat, fct]) | (refine zalc ?_; intro gb wb hS) | ((with_reducible refine gSt ?_); refine zs2 ?_; intro wb hS))
  (first | refine G.r1 ?_ | refine G.r2 ?_ | refine G.r3 ?_ | refine G.r0 ?_ | refine G.d0 ?_); (try simp (disch := first | exact dis | fail) only [push_cast, ↓reduceIte, Nat.reduceAdd, Nat.reduceLeDiff, Nat.reduceEqDiff, Nat.reduceLT, Int.reduceToNat, fct])
  (first | exact Sep.xt (by assumption) | exact ⟨rfl, Sep.xt (by assumption)⟩)
theorem hpre0_spec (s : Str) (c : UInt8) (w : World) (hl : s.length ≤ 1000000000) : Pu Tryd.prog 53 #[S s, S [c]] w (.bool (decide (s.take 1 = [c]))) := by
  have h := hp_spec s [c] w hl (by simp)
  have e : (s.take [c].length == [c]) = decide (s.take 1 = [c]) := by rw [Bool.eq_iff_iff]; simp
  rw [e] at h; exact h
def c44 : MC := (.seq (.reg [qq 4 (.mv (kb false))]) (.seq (.reg [qm 5 0, qm 6 1, qq 7 (.call 53 [(.tmp 5), (.tmp 6)]), qm 4 7]) .ret))
theorem k44 : conv Tryd.prog 8 (Tryd.f44.body.getD .skip) = c44 := by kernel_rfl
theorem in44 {a0 a1 : Value} {w : World} {R : Value → World → Prop} (h : G Tryd.prog Tryd.f44 8 [.c c44] R (frL 0 [a0, a1]) w) : Ret Tryd.prog 44 #[a0, a1] w R := G.enter (args := [a0, a1]) Tryd.func44 (c := Tryd.f44.body.getD .skip) (by kernel_rfl) (by kernel_rfl) (by simp) k44 h
theorem hpre_spec (s : Str) (c : UInt8) (w : World) (hl : s.length ≤ 1000000000) : Pu Tryd.prog 44 #[S s, S [c]] w (.bool (decide (s.take 1 = [c]))) := by
  refine in44 ?_
  have hS := Sep.start w
  repeat' (first | ((with_reducible apply G.a); exact rfl) | refine G.reg fun K hK => ?_ | (with_reducible (refine hK _ _ ?_); clear hK K) | (have hk := hK; clear hk; simp (disch := first | exact dis | fail) only [push_cast, ↓reduceIte, Nat.reduceAdd, Nat.reduceLeDiff, Nat.reduceEqDiff, Nat.reduceLT, Int.reduceToNat, fct]) | (refine zcp 53 (hpre0_spec _ _ _ hl) ?_; intro wb hS))
  (first | refine G.r1 ?_ | refine G.r2 ?_ | refine G.r3 ?_ | refine G.r0 ?_ | refine G.d0 ?_); (try simp (disch := first | exact dis | fail) only [push_cast, ↓reduceIte, Nat.reduceAdd, Nat.reduceLeDiff, Nat.reduceEqDiff, Nat.reduceLT, Int.reduceToNat, fct])
  (first | exact Sep.xt (by assumption) | exact ⟨rfl, Sep.xt (by assumption)⟩)
def c22 : MC := (.seq (.reg [qq 1 (.raw (.box 31 (.tmp 0)) 0), qq 2 (.alc 67 [(.int .i64 0), (S []), (.int .i64 0), (.int .i64 0)])]) (.seq (.reg [qq 4 (.fad 0 (.tmp 1)), qq 5 (.ld none (.tmp 4)), qq 6 (.fad 1 (.tmp 1)), qq 7 (.ld none (.tmp 6)), qq 8 (.fad 2 (.tmp 1)), qq 9 (.ld none (.tmp 8)), qq 10 (.bld [(.int .i64 0), (S []), (.int .i64 0), (.int .i64 0)] [⟨0, ⟨1, (.tmp 5)⟩⟩, ⟨1, ⟨1, (.tmp 7)⟩⟩, ⟨2, ⟨1, (.tmp 9)⟩⟩]), qq 3 (.alc 67 [(.int .i64 0), (S []), (.int .i64 0), (.int .i64 0)]), qn (.st 4 (.tmp 3) (.tmp 10))]) (.seq (.seq (.reg [qq 11 (.fad 3 (.tmp 1)), qq 12 (.ld none (.tmp 11))]) (.cond (.tmp 12) (.reg [qq 13 (.fad 3 (.tmp 3)), qn (.st 1 (.tmp 13) (ki 1))]) .skip)) (.seq (.reg [qq 14 (.ld (.some 4) (.tmp 3)), qn (.st 4 (.tmp 2) (.tmp 14))]) .ret))))
theorem k22 : conv Tryd.prog 15 (Tryd.f22.body.getD .skip) = c22 := by kernel_rfl
theorem in22 {a0 : Value} {w : World} {R : Value → World → Prop} (h : G Tryd.prog Tryd.f22 15 [.c c22] R (frL 0 [a0]) w) : Ret Tryd.prog 22 #[a0] w R := G.enter (args := [a0]) Tryd.func22 (c := Tryd.f22.body.getD .skip) (by kernel_rfl) (by kernel_rfl) (by simp) k22 h
theorem ref17_spec (v : Val) (w : World) : Pu Tryd.prog 22 #[(.agg #[I v.kind, S v.s, I v.n, .bool v.b])] w (.agg #[I v.kind, S v.s, I v.n, I (if v.b = true then 1 else 0)]) := by
  refine in22 ?_
  have hS := Sep.start w
  repeat' (first | ((with_reducible apply G.a); exact rfl) | refine G.reg fun K hK => ?_ | (with_reducible (refine hK _ _ ?_); clear hK K) | (have hk := hK; clear hk; simp (disch := first | exact dis | fail) only [push_cast, ↓reduceIte, Nat.reduceAdd, Nat.reduceLeDiff, Nat.reduceEqDiff, Nat.reduceLT, Int.reduceToNat, fct]) | ((first | refine zalc ?_ | ((with_reducible refine gBox ?_); refine zbox ?_)); intro gb wb hS) | ((with_reducible refine gSt ?_); refine zs2 ?_; intro wb hS) | (refine G.cn ?_ ?_ <;> intro hc <;> first | (with_reducible exact False.elim hc) | (exfalso; omega) | skip))
  all_goals
    (first | refine G.r1 ?_ | refine G.r2 ?_ | refine G.r3 ?_ | refine G.r0 ?_ | refine G.d0 ?_); (try simp (disch := first | exact dis | fail) only [push_cast, ↓reduceIte, Nat.reduceAdd, Nat.reduceLeDiff, Nat.reduceEqDiff, Nat.reduceLT, Int.reduceToNat, fct])
    refine ⟨?_, Sep.xt (by assumption)⟩
    simp [hc]
end Go.Proofs.YtdikpaochhacmaaDoor
