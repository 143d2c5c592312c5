/- Texts of the proof, joined. -/
import Derived.Test.YtdikpaochhacmaaGreatDoorrS02
import Derived.Test.YtdikpaochhacmaaGreatDoorrW02
namespace Go.Proofs.YtdikpaochhacmaaGreatDoor
set_option linter.unusedSimpArgs false
set_option linter.unusedVariables false
attribute [local irreducible] SemK UnitK StK AlcK BslK CallK CallV Instr.box Builtin.append_ Instr.makeSlice Instr.makeMap Instr.lookup Instr.mapUpdate Instr.sliceAt convert
open Go.RowKit
def c65 : MC := (.seq (.reg [qq 2 (.mv (kb false))]) (.seq (.reg [qm 3 0, qq 4 (.bin .eql (.tmp 3) (ki 1)), qm 5 4, qmf 5 6 0, qf 5 7 (.bin .eql (.tmp 6) (ki 2)), qq 8 (.pick (.tmp 5) (kb true) (.tmp 7)), qm 9 8, qmf 9 10 0, qf 9 11 (.bin .eql (.tmp 10) (ki 3)), qq 12 (.pick (.tmp 9) (kb true) (.tmp 11)), qm 2 12]) .ret))
theorem k65 : conv Tryz.prog 13 (Tryz.f65.body.getD .skip) = c65 := by kernel_rfl
theorem in65 {a0 : Value} {w : World} {R : Value → World → Prop} (h : G Tryz.prog Tryz.f65 13 [.c c65] R (frL 0 [a0]) w) : Ret Tryz.prog 65 #[a0] w R := G.enter (args := [a0]) Tryz.func65 (c := Tryz.f65.body.getD .skip) (by kernel_rfl) (by kernel_rfl) (by simp) k65 h
theorem known_spec (k : Int) (w : World) : Pu Tryz.prog 65 #[I k] w (.bool (decide (1 ≤ k ∧ k ≤ 3))) := by
  refine in65 ?_
  have hS := Sep.start w
  repeat' (first | ((with_reducible apply G.a); exact rfl) | refine G.reg fun K hK => ?_ | (with_reducible (refine hK _ _ ?_); clear hK K) | (have hk := hK; clear hk; simp (disch := first | exact dis | fail) only [push_cast, ↓reduceIte, Nat.reduceAdd, Nat.reduceLeDiff, Nat.reduceEqDiff, Nat.reduceLT, Int.reduceToNat, fct]) | (refine brO_n ?_ ?_ <;> intro hb hc <;> first | (with_reducible exact False.elim hc) | (exfalso; omega) | (simp only [hb]; clear hb)))
  all_goals
    (first | refine G.r1 ?_ | refine G.r2 ?_ | refine G.r3 ?_ | refine G.r0 ?_ | refine G.d0 ?_); (try simp (disch := first | exact dis | fail) only [push_cast, ↓reduceIte, Nat.reduceAdd, Nat.reduceLeDiff, Nat.reduceEqDiff, Nat.reduceLT, Int.reduceToNat, fct])
    refine ⟨?_, Sep.xt (by assumption)⟩
    congr 1
    rw [Bool.eq_iff_iff]
    simp only [beq_iff_eq, decide_eq_true_eq, true_iff]
    omega
def c70 : MC := (.seq (.reg [qq 2 (.alc 78 [(.int .i64 0), (S []), (.int .i64 0), (.bool false)])]) (.seq (.reg [qm 3 0, qq 4 (.bld [(.int .i64 0), (S []), (.int .i64 0), (.bool false)] [⟨0, ⟨1, (ki 1)⟩⟩, ⟨1, ⟨1, (.tmp 3)⟩⟩]), qn (.st 4 (.tmp 2) (.tmp 4))]) .ret))
theorem k70 : conv Tryz.prog 5 (Tryz.f70.body.getD .skip) = c70 := by kernel_rfl
theorem in70 {a0 : Value} {w : World} {R : Value → World → Prop} (h : G Tryz.prog Tryz.f70 5 [.c c70] R (frL 0 [a0]) w) : Ret Tryz.prog 70 #[a0] w R := G.enter (args := [a0]) Tryz.func70 (c := Tryz.f70.body.getD .skip) (by kernel_rfl) (by kernel_rfl) (by simp) k70 h
theorem text17_spec (s : Str) (w : World) : Pu Tryz.prog 70 #[S s] w (.agg #[I 1, S s, I 0, .bool false]) := by
  refine in70 ?_
  have hS := Sep.start w
  repeat' (first | ((with_reducible apply G.a); exact rfl) | refine G.reg fun K hK => ?_ | (with_reducible (refine hK _ _ ?_); clear hK K) | (have hk := hK; clear hk; simp (disch := first | exact dis | fail) only [push_cast, ↓reduceIte, Nat.reduceAdd, Nat.reduceLeDiff, Nat.reduceEqDiff, Nat.reduceLT, Int.reduceToNat, fct]) | (refine zalc ?_; intro gb wb hS) | ((with_reducible refine gSt ?_); refine zs2 ?_; intro wb hS))
  (first | refine G.r1 ?_ | refine G.r2 ?_ | refine G.r3 ?_ | refine G.r0 ?_ | refine G.d0 ?_); (try simp (disch := first | exact dis | fail) only [push_cast, ↓reduceIte, Nat.reduceAdd, Nat.reduceLeDiff, Nat.reduceEqDiff, Nat.reduceLT, Int.reduceToNat, fct])
  (first | exact Sep.xt (by assumption) | exact ⟨rfl, Sep.xt (by assumption)⟩)
def c67 : MC := (.seq (.reg [qq 2 (.alc 78 [(.int .i64 0), (S []), (.int .i64 0), (.bool false)])]) (.seq (.reg [qm 3 0, qq 4 (.bld [(.int .i64 0), (S []), (.int .i64 0), (.bool false)] [⟨0, ⟨1, (ki 2)⟩⟩, ⟨2, ⟨1, (.tmp 3)⟩⟩]), qn (.st 4 (.tmp 2) (.tmp 4))]) .ret))
theorem k67 : conv Tryz.prog 5 (Tryz.f67.body.getD .skip) = c67 := by kernel_rfl
theorem in67 {a0 : Value} {w : World} {R : Value → World → Prop} (h : G Tryz.prog Tryz.f67 5 [.c c67] R (frL 0 [a0]) w) : Ret Tryz.prog 67 #[a0] w R := G.enter (args := [a0]) Tryz.func67 (c := Tryz.f67.body.getD .skip) (by kernel_rfl) (by kernel_rfl) (by simp) k67 h
theorem int17_spec (n : Int) (w : World) : Pu Tryz.prog 67 #[I n] w (.agg #[I 2, S [], I n, .bool false]) := by
  refine in67 ?_
  have hS := Sep.start w
  repeat' (first | ((with_reducible apply G.a); exact rfl) | refine G.reg fun K hK => ?_ | (with_reducible (refine hK _ _ ?_); clear hK K) | (have hk := hK; clear hk; simp (disch := first | exact dis | fail) only [push_cast, ↓reduceIte, Nat.reduceAdd, Nat.reduceLeDiff, Nat.reduceEqDiff, Nat.reduceLT, Int.reduceToNat, fct]) | (refine zalc ?_; intro gb wb hS) | ((with_reducible refine gSt ?_); refine zs2 ?_; intro wb hS))
  (first | refine G.r1 ?_ | refine G.r2 ?_ | refine G.r3 ?_ | refine G.r0 ?_ | refine G.d0 ?_); (try simp (disch := first | exact dis | fail) only [push_cast, ↓reduceIte, Nat.reduceAdd, Nat.reduceLeDiff, Nat.reduceEqDiff, Nat.reduceLT, Int.reduceToNat, fct])
  (first | exact Sep.xt (by assumption) | exact ⟨rfl, Sep.xt (by assumption)⟩)
def c68 : MC := (.seq (.reg [qq 2 (.alc 78 [(.int .i64 0), (S []), (.int .i64 0), (.bool false)])]) (.seq (.reg [qm 3 0, qq 4 (.bld [(.int .i64 0), (S []), (.int .i64 0), (.bool false)] [⟨0, ⟨1, (ki 3)⟩⟩, ⟨3, ⟨1, (.tmp 3)⟩⟩]), qn (.st 4 (.tmp 2) (.tmp 4))]) .ret))
theorem k68 : conv Tryz.prog 5 (Tryz.f68.body.getD .skip) = c68 := by kernel_rfl
theorem in68 {a0 : Value} {w : World} {R : Value → World → Prop} (h : G Tryz.prog Tryz.f68 5 [.c c68] R (frL 0 [a0]) w) : Ret Tryz.prog 68 #[a0] w R := G.enter (args := [a0]) Tryz.func68 (c := Tryz.f68.body.getD .skip) (by kernel_rfl) (by kernel_rfl) (by simp) k68 h
theorem bool17_spec (b : Bool) (w : World) : Pu Tryz.prog 68 #[.bool b] w (.agg #[I 3, S [], I 0, .bool b]) := by
  refine in68 ?_
  have hS := Sep.start w
  repeat' (first | ((with_reducible apply G.a); exact rfl) | refine G.reg fun K hK => ?_ | (with_reducible (refine hK _ _ ?_); clear hK K) | (have hk := hK; clear hk; simp (disch := first | exact dis | fail) only [push_cast, ↓reduceIte, Nat.reduceAdd, Nat.reduceLeDiff, Nat.reduceEqDiff, Nat.reduceLT, Int.reduceToNat, fct]) | (refine zalc ?_; intro gb wb hS) | ((with_reducible refine gSt ?_); refine zs2 ?_; intro wb hS))
  (first | refine G.r1 ?_ | refine G.r2 ?_ | refine G.r3 ?_ | refine G.r0 ?_ | refine G.d0 ?_); (try simp (disch := first | exact dis | fail) only [push_cast, ↓reduceIte, Nat.reduceAdd, Nat.reduceLeDiff, Nat.reduceEqDiff, Nat.reduceLT, Int.reduceToNat, fct])
  (first | exact Sep.xt (by assumption) | exact ⟨rfl, Sep.xt (by assumption)⟩)
theorem hpre0_spec (s : Str) (c : UInt8) (w : World) (hl : s.length ≤ 1000000000) : Pu Tryz.prog 99 #[S s, S [c]] w (.bool (decide (s.take 1 = [c]))) := by
  have h := hp_spec s [c] w hl (by simp)
  have e : (s.take [c].length == [c]) = decide (s.take 1 = [c]) := by rw [Bool.eq_iff_iff]; simp
  rw [e] at h; exact h
def c71 : MC := (.seq (.reg [qq 4 (.mv (kb false))]) (.seq (.reg [qm 5 0, qm 6 1, qq 7 (.call 99 [(.tmp 5), (.tmp 6)]), qm 4 7]) .ret))
theorem k71 : conv Tryz.prog 8 (Tryz.f71.body.getD .skip) = c71 := by kernel_rfl
theorem in71 {a0 a1 : Value} {w : World} {R : Value → World → Prop} (h : G Tryz.prog Tryz.f71 8 [.c c71] R (frL 0 [a0, a1]) w) : Ret Tryz.prog 71 #[a0, a1] w R := G.enter (args := [a0, a1]) Tryz.func71 (c := Tryz.f71.body.getD .skip) (by kernel_rfl) (by kernel_rfl) (by simp) k71 h
theorem hpre_spec (s : Str) (c : UInt8) (w : World) (hl : s.length ≤ 1000000000) : Pu Tryz.prog 71 #[S s, S [c]] w (.bool (decide (s.take 1 = [c]))) := by
  refine in71 ?_
  have hS := Sep.start w
  repeat' (first | ((with_reducible apply G.a); exact rfl) | refine G.reg fun K hK => ?_ | (with_reducible (refine hK _ _ ?_); clear hK K) | (have hk := hK; clear hk; simp (disch := first | exact dis | fail) only [push_cast, ↓reduceIte, Nat.reduceAdd, Nat.reduceLeDiff, Nat.reduceEqDiff, Nat.reduceLT, Int.reduceToNat, fct]) | (refine zcp 99 (hpre0_spec _ _ _ hl) ?_; intro wb hS))
  (first | refine G.r1 ?_ | refine G.r2 ?_ | refine G.r3 ?_ | refine G.r0 ?_ | refine G.d0 ?_); (try simp (disch := first | exact dis | fail) only [push_cast, ↓reduceIte, Nat.reduceAdd, Nat.reduceLeDiff, Nat.reduceEqDiff, Nat.reduceLT, Int.reduceToNat, fct])
  (first | exact Sep.xt (by assumption) | exact ⟨rfl, Sep.xt (by assumption)⟩)
def i64M (n : Int) : Prop := -9223372036854775808 ≤ n ∧ n ≤ 9223372036854775807
def c43 : MC := (.seq (.reg [qq 1 (.raw (.box 78 (.tmp 0)) 0), qq 2 (.alc 110 [(.int .i64 0), (S []), (.int .i64 0), (.int .i64 0)])]) (.seq (.reg [qq 4 (.fad 0 (.tmp 1)), qq 5 (.ld none (.tmp 4)), qq 6 (.fad 1 (.tmp 1)), qq 7 (.ld none (.tmp 6)), qq 8 (.fad 2 (.tmp 1)), qq 9 (.ld none (.tmp 8)), qq 10 (.bld [(.int .i64 0), (S []), (.int .i64 0), (.int .i64 0)] [⟨0, ⟨1, (.tmp 5)⟩⟩, ⟨1, ⟨1, (.tmp 7)⟩⟩, ⟨2, ⟨1, (.tmp 9)⟩⟩]), qq 3 (.alc 110 [(.int .i64 0), (S []), (.int .i64 0), (.int .i64 0)]), qn (.st 4 (.tmp 3) (.tmp 10))]) (.seq (.seq (.reg [qq 11 (.fad 3 (.tmp 1)), qq 12 (.ld none (.tmp 11))]) (.cond (.tmp 12) (.reg [qq 13 (.fad 3 (.tmp 3)), qn (.st 1 (.tmp 13) (ki 1))]) .skip)) (.seq (.reg [qq 14 (.ld (.some 4) (.tmp 3)), qn (.st 4 (.tmp 2) (.tmp 14))]) .ret))))
theorem k43 : conv Tryz.prog 15 (Tryz.f43.body.getD .skip) = c43 := by kernel_rfl
theorem in43 {a0 : Value} {w : World} {R : Value → World → Prop} (h : G Tryz.prog Tryz.f43 15 [.c c43] R (frL 0 [a0]) w) : Ret Tryz.prog 43 #[a0] w R := G.enter (args := [a0]) Tryz.func43 (c := Tryz.f43.body.getD .skip) (by kernel_rfl) (by kernel_rfl) (by simp) k43 h
theorem ref17_spec (v : Val) (w : World) : Pu Tryz.prog 43 #[(.agg #[I v.kind, S v.s, I v.n, .bool v.b])] w (.agg #[I v.kind, S v.s, I v.n, I (if v.b = true then 1 else 0)]) := by
  refine in43 ?_
  have hS := Sep.start w
  repeat' (first | ((with_reducible apply G.a); exact rfl) | refine G.reg fun K hK => ?_ | (with_reducible (refine hK _ _ ?_); clear hK K) | (have hk := hK; clear hk; simp (disch := first | exact dis | fail) only [push_cast, ↓reduceIte, Nat.reduceAdd, Nat.reduceLeDiff, Nat.reduceEqDiff, Nat.reduceLT, Int.reduceToNat, fct]) | ((first | refine zalc ?_ | ((with_reducible refine gBox ?_); refine zbox ?_)); intro gb wb hS) | ((with_reducible refine gSt ?_); refine zs2 ?_; intro wb hS) | (refine G.cn ?_ ?_ <;> intro hc <;> first | (with_reducible exact False.elim hc) | (exfalso; omega) | skip))
  all_goals
    (first | refine G.r1 ?_ | refine G.r2 ?_ | refine G.r3 ?_ | refine G.r0 ?_ | refine G.d0 ?_); (try simp (disch := first | exact dis | fail) only [push_cast, ↓reduceIte, Nat.reduceAdd, Nat.reduceLeDiff, Nat.reduceEqDiff, Nat.reduceLT, Int.reduceToNat, fct])
    refine ⟨?_, Sep.xt (by assumption)⟩
    simp [hc]
end Go.Proofs.YtdikpaochhacmaaGreatDoor
namespace Go.Proofs.YtdikpaochhacmaaGreatDoor
set_option linter.unusedSimpArgs false
set_option linter.unusedVariables false
attribute [local irreducible] SemK UnitK StK AlcK BslK CallK CallV Instr.box Builtin.append_ Instr.makeSlice Instr.makeMap Instr.lookup Instr.mapUpdate Instr.sliceAt convert
open Go.RowKit
def c75 : MC := (.seq (.reg [qq 2 (.mv (.const (S [])))]) (.seq (.reg [qm 3 0, qq 4 (.call 104 [(.tmp 3), (ki 10)]), qm 2 4]) .ret))
end Go.Proofs.YtdikpaochhacmaaGreatDoor
namespace Go.Proofs.YtdikpaochhacmaaGreatDoor
set_option linter.unusedSimpArgs false
set_option linter.unusedVariables false
attribute [local irreducible] SemK UnitK StK AlcK BslK CallK CallV Instr.box Builtin.append_ Instr.makeSlice Instr.makeMap Instr.lookup Instr.mapUpdate Instr.sliceAt convert
open Go.RowKit
theorem nz (c : Bool) : (if c = true then (-1 : Int) else 1) ≠ 0 := by cases c <;> simp
end Go.Proofs.YtdikpaochhacmaaGreatDoor
namespace Go.Proofs.YtdikpaochhacmaaGreatDoor
set_option linter.unusedSimpArgs false
set_option linter.unusedVariables false
attribute [local irreducible] SemK UnitK StK AlcK BslK CallK CallV Instr.box Builtin.append_ Instr.makeSlice Instr.makeMap Instr.lookup Instr.mapUpdate Instr.sliceAt convert
open Go.RowKit
def eW : Enc Val := ⟨4, fun v => [I v.kind, S v.s, I v.n, .bool v.b], fun _ => rfl⟩
instance : EncSz eW 4 := ⟨rfl⟩
end Go.Proofs.YtdikpaochhacmaaGreatDoor
