/- Texts of the proof, joined. -/
import Derived.Test.YtdikpaochhacmaaGreatDoorsW17
import Derived.Test.YtdikpaochhacmaaGreatDoorsFi
namespace Go.Proofs.YtdikpaochhacmaaGreatDoor
set_option linter.unusedSimpArgs false
set_option linter.unusedVariables false
attribute [local irreducible] SemK UnitK StK AlcK BslK CallK CallV Instr.box Builtin.append_ Instr.makeSlice Instr.makeMap Instr.lookup Instr.mapUpdate Instr.sliceAt convert
open Go.RowKit
def c75 : MC := (.seq (.reg [qq 2 (.mv (.const (S [])))]) (.seq (.reg [qm 3 0, qq 4 (.call 104 [(.tmp 3), (ki 10)]), qm 2 4]) .ret))
theorem k75 : conv Tryz.prog 5 (Tryz.f75.body.getD .skip) = c75 := by kernel_rfl
theorem in75 {a0 : Value} {w : World} {R : Value → World → Prop} (h : G Tryz.prog Tryz.f75 5 [.c c75] R (frL 0 [a0]) w) : Ret Tryz.prog 75 #[a0] w R := G.enter (args := [a0]) Tryz.func75 (c := Tryz.f75.body.getD .skip) (by kernel_rfl) (by kernel_rfl) (by simp) k75 h
theorem print_spec (n : Int) (w : World) (hn : i64M n) (ht : Tab w) : Pu Tryz.prog 75 #[I n] w (S (Lib.itoa n)) := by
  refine in75 ?_
  have hS := Sep.start w
  repeat' (first | ((with_reducible apply G.a); exact rfl) | refine G.reg fun K hK => ?_ | (with_reducible (refine hK _ _ ?_); clear hK K) | (have hk := hK; clear hk; simp (disch := first | exact dis | fail) only [push_cast, ↓reduceIte, Nat.reduceAdd, Nat.reduceLeDiff, Nat.reduceEqDiff, Nat.reduceLT, Int.reduceToNat, fct]) | (refine zcp 104 (fi_spec n _ hn.1 hn.2 (ht.ext hS.x)) ?_; intro wb hS))
  (first | refine G.r1 ?_ | refine G.r2 ?_ | refine G.r3 ?_ | refine G.r0 ?_ | refine G.d0 ?_); (try simp (disch := first | exact dis | fail) only [push_cast, ↓reduceIte, Nat.reduceAdd, Nat.reduceLeDiff, Nat.reduceEqDiff, Nat.reduceLT, Int.reduceToNat, fct])
  (first | exact Sep.xt (by assumption) | exact ⟨rfl, Sep.xt (by assumption)⟩)
theorem enc_fin {a : Str} {n : Int} {p : Str × Int} (h : p = (a, n)) : Value.tuple #[S a, .int .i64 n] = .tuple #[S p.1, I p.2] := by rw [h]
def c41 : MC := (.seq (.reg [qq 2 (.raw (.box 78 (.tmp 0)) 0), qq 3 (.raw (.box 76 (.tmp 1)) 0), qq 4 (.mv (.const (S []))), qq 5 (.mv (ki 0))]) (.seq (.seq (.reg [qq 6 (.fad 1 (.tmp 3)), qq 7 (.ld none (.tmp 6)), qq 8 (.call 65 [(.tmp 7)]), qq 9 (.un .not (.tmp 8))]) (.cond (.tmp 9) (.seq (.reg [qq 4 (.mv (.const (S []))), qq 5 (.mv (ki 22))]) .ret) .skip)) (.seq (.seq (.reg [qq 10 (.ld (.some 4) (.tmp 2)), qq 11 (.call 74 [(.tmp 10)]), qq 12 (.un .not (.tmp 11)), qm 13 12, qf 13 14 (.fad 0 (.tmp 2)), qf 13 15 (.ld none (.tmp 14)), qf 13 16 (.bin .neq (.tmp 15) (ki 0)), qmf 13 17 16, qt 17 18 (.fad 0 (.tmp 2)), qt 17 19 (.ld none (.tmp 18)), qt 17 20 (.fad 1 (.tmp 3)), qt 17 21 (.ld none (.tmp 20)), qt 17 22 (.bin .neq (.tmp 19) (.tmp 21)), qf 13 23 (.pick (.tmp 17) (.tmp 22) (kb false)), qq 24 (.pick (.tmp 13) (kb true) (.tmp 23))]) (.cond (.tmp 24) (.seq (.reg [qq 4 (.mv (.const (S []))), qq 5 (.mv (ki 21))]) .ret) .skip)) (.seq (.seq (.reg [qq 25 (.fad 0 (.tmp 2)), qq 26 (.ld none (.tmp 25))]) (.blk 0 (.seq (.reg [qq 28 (.bin .eql (.tmp 26) (ki 0)), qm 27 28]) (.cond (.tmp 27) (.seq (.seq (.reg [qq 29 (.fad 2 (.tmp 3)), qq 30 (.ld none (.tmp 29)), qq 31 (.un .not (.tmp 30))]) (.cond (.tmp 31) (.seq (.reg [qq 4 (.mv (.const (S []))), qq 5 (.mv (ki 20))]) .ret) .skip)) (.seq (.reg [qq 4 (.mv (.const (S []))), qq 5 (.mv (ki 0))]) .ret)) (.seq (.reg [qq 33 (.bin .eql (.tmp 26) (ki 2)), qm 32 33]) (.cond (.tmp 32) (.seq (.reg [qq 34 (.fad 2 (.tmp 2)), qq 35 (.ld none (.tmp 34)), qq 36 (.call 75 [(.tmp 35)]), qm 4 36, qq 5 (.mv (ki 0))]) .ret) (.seq (.reg [qq 38 (.bin .eql (.tmp 26) (ki 3)), qm 37 38]) (.cond (.tmp 37) (.seq (.seq (.reg [qq 39 (.fad 3 (.tmp 2)), qq 40 (.ld none (.tmp 39))]) (.cond (.tmp 40) (.seq (.reg [qq 4 (.mv (.const (S [116, 114, 117, 101]))), qq 5 (.mv (ki 0))]) .ret) .skip)) (.seq (.reg [qq 4 (.mv (.const (S [102, 97, 108, 115, 101]))), qq 5 (.mv (ki 0))]) .ret)) .skip)))))))) (.seq (.seq (.reg [qq 41 (.fad 2 (.tmp 3)), qq 42 (.ld none (.tmp 41)), qm 43 42, qt 43 44 (.fad 1 (.tmp 2)), qt 43 45 (.ld none (.tmp 44)), qt 43 46 (.bin .eql (.tmp 45) (.const (S []))), qmt 43 47 46, qf 47 48 (.fad 1 (.tmp 2)), qf 47 49 (.ld none (.tmp 48)), qf 47 50 (.call 71 [(.tmp 49), (.const (S [92]))]), qt 43 51 (.pick (.tmp 47) (kb true) (.tmp 50)), qq 52 (.pick (.tmp 43) (.tmp 51) (kb false))]) (.cond (.tmp 52) (.seq (.reg [qq 53 (.fad 1 (.tmp 2)), qq 54 (.ld none (.tmp 53)), qq 55 (.bin .add (.const (S [92])) (.tmp 54)), qm 4 55, qq 5 (.mv (ki 0))]) .ret) .skip)) (.seq (.reg [qq 56 (.fad 1 (.tmp 2)), qq 57 (.ld none (.tmp 56)), qm 4 57, qq 5 (.mv (ki 0))]) .ret))))))
theorem k41 : conv Tryz.prog 58 (Tryz.f41.body.getD .skip) = c41 := by kernel_rfl
theorem in41 {a0 a1 : Value} {w : World} {R : Value → World → Prop} (h : G Tryz.prog Tryz.f41 58 [.c c41] R (frL 0 [a0, a1]) w) : Ret Tryz.prog 41 #[a0, a1] w R := G.enter (args := [a0, a1]) Tryz.func41 (c := Tryz.f41.body.getD .skip) (by kernel_rfl) (by kernel_rfl) (by simp) k41 h
theorem enc_spec (v : Val) (nm : Str) (k : Int) (nl : Bool) (w : World) (hl : v.s.length ≤ 1000000) (hn : i64M v.n) (ht : Tab w) :
    Pu Tryz.prog 41 #[(.agg #[I v.kind, S v.s, I v.n, .bool v.b]), .agg #[S nm, I k, .bool nl]] w (.tuple #[S (encM v k nl).1, I (encM v k nl).2]) := by
  refine in41 ?_
  have hS := Sep.start w
  unfold encM
  by_cases hk : 1 ≤ k ∧ k ≤ 3
  · rw [if_neg (not_not_intro hk)]
    repeat' (first | ((with_reducible apply G.a); exact rfl) | refine G.reg fun K hK => ?_ | (with_reducible (refine hK _ _ ?_); clear hK K) | (with_reducible (refine hK _ ?_); clear hK K; intro wd hxd; have hS := Sep.ext (by assumption) hxd) | ((first | have hk := hK | have hk := hK2); clear hk; simp (disch := (first | exact dis | fail)) only [push_cast, ↓reduceIte, Nat.reduceAdd, Nat.reduceLeDiff, Nat.reduceEqDiff, Nat.reduceLT, Int.reduceToNat, decide_eq_true hk]) | ((first | refine brO_mk ?_ ?_ | refine brQ_mk ?_ ?_) <;> intro hb <;> (try simp only [Bool.not_eq_true', Bool.not_eq_false'] at hb) <;> have hc := hb <;> (try simp only [hcs, reduceCtorEq] at hc) <;> (try (exfalso; omega)) <;> simp only [hb] <;> clear hb) | (refine zalc ?_; intro gb wb hS) | (refine zbsl ?_; intro gb wb hS) | ((with_reducible (show SemK _ (Instr.box _ _) _ _ _ _)); refine zbox ?_; intro gb wb hS) | ((with_reducible (show StK _ _ (Value.pointer _) _ _ _ _ _)); refine zst ?_; intro wb hS; (try simp only [sets] at hS)) | (refine zcv ?_) | (refine zcp 65 (known_spec k _) ?_; intro wb hS) | (refine zcp 74 (right17_spec v _ hl) ?_; intro wb hS) | (refine zcp 75 (print_spec v.n _ hn (ht.ext hS.x)) ?_; intro wb hS) | (refine zcp 71 (hpre_spec v.s 92 _ (by omega)) ?_; intro wb hS) | (refine G.drt mixed fun K hK wd hxd => ?_; have hS := Sep.ext (by assumption) hxd) | with_reducible refine OT_leaf ?_ | (with_reducible refine OT_tail fun K2 hK2 => ?_) | (with_reducible (refine hK2 _ ?_); clear hK2 K2; intro wd hxd; have hS := Sep.ext (by assumption) hxd) | with_reducible refine OT_br fun K2 hK2 => ?_ | (refine hK2 _ _ ?_ ?_ <;> clear hK2 K2) | refine G.drg mixed fun K hK => ?_ | (refine G.cond (by simp only [push_cast, ↓reduceIte, Nat.reduceAdd, Nat.reduceLeDiff, Nat.reduceEqDiff, Nat.reduceLT, Int.reduceToNat, decide_eq_true hk]; rfl) ?_ ?_ <;> intro hc <;> (try simp only [hcs, reduceCtorEq] at hc) <;> (try (exfalso; omega))))
    all_goals
      (first | refine G.r1 ?_ | refine G.r2 ?_ | refine G.r3 ?_ | refine G.r0 ?_ | refine G.d0 ?_); (try simp (disch := first | exact dis | fail) only [push_cast, ↓reduceIte, Nat.reduceAdd, Nat.reduceLeDiff, Nat.reduceEqDiff, Nat.reduceLT, Int.reduceToNat, fct])
      refine ⟨enc_fin ?_, Sep.xt (by assumption)⟩
      clear hS
      first | (simp_all [mkdM]; done) | grind [mkdM]
  · rw [if_pos hk]
    repeat' (first | ((with_reducible apply G.a); exact rfl) | refine G.reg fun K hK => ?_ | (with_reducible (refine hK _ _ ?_); clear hK K) | (with_reducible (refine hK _ ?_); clear hK K; intro wd hxd; have hS := Sep.ext (by assumption) hxd) | ((first | have hk := hK | have hk := hK2); clear hk; simp (disch := (first | exact dis | fail)) only [push_cast, ↓reduceIte, Nat.reduceAdd, Nat.reduceLeDiff, Nat.reduceEqDiff, Nat.reduceLT, Int.reduceToNat, decide_eq_false hk]) | ((first | refine brO_mk ?_ ?_ | refine brQ_mk ?_ ?_) <;> intro hb <;> (try simp only [Bool.not_eq_true', Bool.not_eq_false'] at hb) <;> have hc := hb <;> (try simp only [hcs, reduceCtorEq] at hc) <;> (try (exfalso; omega)) <;> simp only [hb] <;> clear hb) | (refine zalc ?_; intro gb wb hS) | (refine zbsl ?_; intro gb wb hS) | ((with_reducible (show SemK _ (Instr.box _ _) _ _ _ _)); refine zbox ?_; intro gb wb hS) | ((with_reducible (show StK _ _ (Value.pointer _) _ _ _ _ _)); refine zst ?_; intro wb hS; (try simp only [sets] at hS)) | (refine zcv ?_) | (refine zcp 65 (known_spec k _) ?_; intro wb hS) | (refine G.drt mixed fun K hK wd hxd => ?_; have hS := Sep.ext (by assumption) hxd) | with_reducible refine OT_leaf ?_ | (with_reducible refine OT_tail fun K2 hK2 => ?_) | (with_reducible (refine hK2 _ ?_); clear hK2 K2; intro wd hxd; have hS := Sep.ext (by assumption) hxd) | with_reducible refine OT_br fun K2 hK2 => ?_ | (refine hK2 _ _ ?_ ?_ <;> clear hK2 K2) | refine G.drg mixed fun K hK => ?_ | (refine G.cond (by simp only [push_cast, ↓reduceIte, Nat.reduceAdd, Nat.reduceLeDiff, Nat.reduceEqDiff, Nat.reduceLT, Int.reduceToNat, decide_eq_false hk]; rfl) ?_ ?_ <;> intro hc <;> (try simp only [hcs, reduceCtorEq] at hc) <;> (try (exfalso; omega))))
    (first | refine G.r1 ?_ | refine G.r2 ?_ | refine G.r3 ?_ | refine G.r0 ?_ | refine G.d0 ?_); (try simp (disch := first | exact dis | fail) only [push_cast, ↓reduceIte, Nat.reduceAdd, Nat.reduceLeDiff, Nat.reduceEqDiff, Nat.reduceLT, Int.reduceToNat, fct])
    (first | exact Sep.xt (by assumption) | exact ⟨rfl, Sep.xt (by assumption)⟩)
end Go.Proofs.YtdikpaochhacmaaGreatDoor
namespace Go.Proofs.YtdikpaochhacmaaGreatDoor
set_option linter.unusedSimpArgs false
set_option linter.unusedVariables false
attribute [local irreducible] SemK UnitK StK AlcK BslK CallK CallV Instr.box Builtin.append_ Instr.makeSlice Instr.makeMap Instr.lookup Instr.mapUpdate Instr.sliceAt convert
open Go.RowKit
theorem nz (c : Bool) : (if c = true then (-1 : Int) else 1) ≠ 0 := by cases c <;> simp
end Go.Proofs.YtdikpaochhacmaaGreatDoor
namespace Go.Proofs.YtdikpaochhacmaaGreatDoor
set_option linter.unusedSimpArgs false
set_option linter.unusedVariables false
attribute [local irreducible] SemK UnitK StK AlcK BslK CallK CallV Instr.box Builtin.append_ Instr.makeSlice Instr.makeMap Instr.lookup Instr.mapUpdate Instr.sliceAt convert
open Go.RowKit
def eW : Enc Val := ⟨4, fun v => [I v.kind, S v.s, I v.n, .bool v.b], fun _ => rfl⟩
instance : EncSz eW 4 := ⟨rfl⟩
end Go.Proofs.YtdikpaochhacmaaGreatDoor
