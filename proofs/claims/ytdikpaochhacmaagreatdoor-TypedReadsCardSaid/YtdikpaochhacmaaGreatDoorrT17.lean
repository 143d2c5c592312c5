/- Texts of the proof, joined. -/
import Derived.Test.YtdikpaochhacmaaGreatDoorrZ16
namespace Go.Proofs.YtdikpaochhacmaaGreatDoor
set_option linter.unusedSimpArgs false
set_option linter.unusedVariables false
attribute [local irreducible] SemK UnitK StK AlcK BslK CallK CallV Instr.box Builtin.append_ Instr.makeSlice Instr.makeMap Instr.lookup Instr.mapUpdate Instr.sliceAt convert
open Go.RowKit
def fieM (v : Val) (nl : Bool) : Str := if v.kind = 2 then Lib.itoa v.n else if v.kind = 3 then (if v.b = true then [116, 114, 117, 101] else [102, 97, 108, 115, 101]) else if v.kind = 1 ∧ nl = true ∧ mkdM v.s = true then 92 :: v.s else v.s
theorem n01b {b : Bool} : (if b = true then (1 : Int) else 0) = 1 ↔ b = true := by cases b <;> simp
theorem n00b {b : Bool} : (if b = true then (1 : Int) else 0) = 0 ↔ b = false := by cases b <;> simp
def c101 : MC := (.seq (.reg [qq 2 (.mv (kb false))]) (.seq (.reg [qm 3 0, qq 4 (.bin .eql (.tmp 3) (.const (S []))), qm 5 4, qmf 5 6 0, qf 5 7 (.idxS (.tmp 6) (ki 0)), qf 5 8 (.bin .eql (.tmp 7) (.const (.int .u8 92))), qq 9 (.pick (.tmp 5) (kb true) (.tmp 8)), qm 2 9]) .ret))
theorem k101 : conv Tryz.prog 10 (Tryz.f101.body.getD .skip) = c101 := by kernel_rfl
theorem in101 {a0 : Value} {w : World} {R : Value → World → Prop} (h : G Tryz.prog Tryz.f101 10 [.c c101] R (frL 0 [a0]) w) : Ret Tryz.prog 101 #[a0] w R := G.enter (args := [a0]) Tryz.func101 (c := Tryz.f101.body.getD .skip) (by kernel_rfl) (by kernel_rfl) (by simp) k101 h
theorem marked_spec (s : Str) (w : World) (hl : s.length ≤ 1000000) : Pu Tryz.prog 101 #[S s] w (.bool (mkdM s)) := by
  refine in101 ?_
  have hS := Sep.start w
  cases s with
  | nil =>
    have hz : (([] : Str) == []) = true := rfl
    (have fct := @hz; repeat' (first | ((with_reducible apply G.a); exact rfl) | refine G.reg fun K hK => ?_ | (with_reducible (refine hK _ _ ?_); clear hK K) | (have hk := hK; clear hk; simp (disch := first | exact dis | fail) only [push_cast, ↓reduceIte, Nat.reduceAdd, Nat.reduceLeDiff, Nat.reduceEqDiff, Nat.reduceLT, Int.reduceToNat, fct]) | (refine brO_n ?_ ?_ <;> intro hb hc <;> first | (with_reducible exact False.elim hc) | (exfalso; omega) | (simp only [hb]; clear hb)))) <;> (try clear fct)
    (have fct := @hz; (first | refine G.r1 ?_ | refine G.r2 ?_ | refine G.r3 ?_ | refine G.r0 ?_ | refine G.d0 ?_); (try simp (disch := first | exact dis | fail) only [push_cast, ↓reduceIte, Nat.reduceAdd, Nat.reduceLeDiff, Nat.reduceEqDiff, Nat.reduceLT, Int.reduceToNat, fct]); (try clear fct))
    exact ⟨rfl, Sep.xt (by assumption)⟩
  | cons b r =>
    have hz : (b :: r == []) = false := by simp
    have e : mkdM (b :: r) = ((b.toNat : Int) == 92) := by
      rw [Bool.eq_iff_iff, mkd_iff]
      simp only [reduceCtorEq, false_or, beq_iff_eq, List.cons.injEq]
      exact ⟨fun ⟨_, h, _⟩ => by rw [h]; rfl, fun h => ⟨r, u8eq16 (c := 92) (n := 92) rfl h, rfl⟩⟩
    rw [e]
    (have fct := @hz; repeat' (first | ((with_reducible apply G.a); exact rfl) | refine G.reg fun K hK => ?_ | (with_reducible (refine hK _ _ ?_); clear hK K) | (have hk := hK; clear hk; simp (disch := first | exact dis | fail) only [push_cast, ↓reduceIte, Nat.reduceAdd, Nat.reduceLeDiff, Nat.reduceEqDiff, Nat.reduceLT, Int.reduceToNat, fct]) | (refine brO_n ?_ ?_ <;> intro hb hc <;> first | (with_reducible exact False.elim hc) | (exfalso; omega) | (simp only [hb]; clear hb)))) <;> (try clear fct)
    (have fct := @hz; (first | refine G.r1 ?_ | refine G.r2 ?_ | refine G.r3 ?_ | refine G.r0 ?_ | refine G.d0 ?_); (try simp (disch := first | exact dis | fail) only [push_cast, ↓reduceIte, Nat.reduceAdd, Nat.reduceLeDiff, Nat.reduceEqDiff, Nat.reduceLT, Int.reduceToNat, fct]); (try clear fct))
    (first | exact Sep.xt (by assumption) | exact ⟨rfl, Sep.xt (by assumption)⟩)
def c72 : MC := (.seq (.reg [qq 2 (.raw (.box 110 (.tmp 0)) 0), qq 3 (.raw (.box 114 (.tmp 1)) 0), qq 4 (.mv (.const (S [])))]) (.seq (.seq (.reg [qq 5 (.fad 0 (.tmp 2)), qq 6 (.ld none (.tmp 5)), qq 7 (.bin .eql (.tmp 6) (ki 2))]) (.cond (.tmp 7) (.seq (.reg [qq 8 (.fad 2 (.tmp 2)), qq 9 (.ld none (.tmp 8)), qq 10 (.call 100 [(.tmp 9)]), qm 4 10]) .ret) .skip)) (.seq (.seq (.reg [qq 11 (.fad 0 (.tmp 2)), qq 12 (.ld none (.tmp 11)), qq 13 (.bin .eql (.tmp 12) (ki 3)), qm 14 13, qt 14 15 (.fad 3 (.tmp 2)), qt 14 16 (.ld none (.tmp 15)), qt 14 17 (.bin .eql (.tmp 16) (ki 1)), qq 18 (.pick (.tmp 14) (.tmp 17) (kb false))]) (.cond (.tmp 18) (.seq (.reg [qq 4 (.mv (.const (S [116, 114, 117, 101])))]) .ret) .skip)) (.seq (.seq (.reg [qq 19 (.fad 0 (.tmp 2)), qq 20 (.ld none (.tmp 19)), qq 21 (.bin .eql (.tmp 20) (ki 3))]) (.cond (.tmp 21) (.seq (.reg [qq 4 (.mv (.const (S [102, 97, 108, 115, 101])))]) .ret) .skip)) (.seq (.seq (.reg [qq 22 (.fad 0 (.tmp 2)), qq 23 (.ld none (.tmp 22)), qq 24 (.bin .eql (.tmp 23) (ki 1)), qm 25 24, qt 25 26 (.fad 1 (.tmp 3)), qt 25 27 (.ld none (.tmp 26)), qt 25 28 (.bin .eql (.tmp 27) (ki 1)), qq 29 (.pick (.tmp 25) (.tmp 28) (kb false)), qm 30 29, qt 30 31 (.fad 1 (.tmp 2)), qt 30 32 (.ld none (.tmp 31)), qt 30 33 (.call 101 [(.tmp 32)]), qq 34 (.pick (.tmp 30) (.tmp 33) (kb false))]) (.cond (.tmp 34) (.seq (.reg [qq 35 (.bsl 5 [(.int .u8 0)] 1 [⟨0, ⟨1, (.const (.int .u8 92))⟩⟩]), qq 36 (.b2s (.tmp 35)), qq 37 (.fad 1 (.tmp 2)), qq 38 (.ld none (.tmp 37)), qq 39 (.bin .add (.tmp 36) (.tmp 38)), qm 4 39]) .ret) .skip)) (.seq (.reg [qq 40 (.fad 1 (.tmp 2)), qq 41 (.ld none (.tmp 40)), qm 4 41]) .ret))))))
theorem k72 : conv Tryz.prog 42 (Tryz.f72.body.getD .skip) = c72 := by kernel_rfl
theorem in72 {a0 a1 : Value} {w : World} {R : Value → World → Prop} (h : G Tryz.prog Tryz.f72 42 [.c c72] R (frL 0 [a0, a1]) w) : Ret Tryz.prog 72 #[a0, a1] w R := G.enter (args := [a0, a1]) Tryz.func72 (c := Tryz.f72.body.getD .skip) (by kernel_rfl) (by kernel_rfl) (by simp) k72 h
theorem field_spec (v : Val) (k : Int) (nl : Bool) (w : World) (hl : v.s.length ≤ 1000000) (hn : i64M v.n) : Pu Tryz.prog 72 #[(.agg #[I v.kind, S v.s, I v.n, I (if v.b = true then 1 else 0)]), (.agg #[I k, I (if nl = true then 1 else 0)])] w (S (fieM v nl)) := by
  refine in72 ?_
  have hS := Sep.start w
  unfold fieM
  repeat' (first | ((with_reducible apply G.a); exact rfl) | refine G.reg fun K hK => ?_ | (with_reducible (refine hK _ _ ?_); clear hK K) | (have hk := hK; clear hk; simp (disch := first | exact dis | fail) only [push_cast, ↓reduceIte, Nat.reduceAdd, Nat.reduceLeDiff, Nat.reduceEqDiff, Nat.reduceLT, Int.reduceToNat, fct]) | (refine brO_n ?_ ?_ <;> intro hb hc <;> first | (with_reducible exact False.elim hc) | (exfalso; omega) | (simp only [hb]; clear hb)) | ((first | refine zbsl ?_ | ((with_reducible refine gBox ?_); refine zbox ?_)); intro gb wb hS) | (refine zcp 100 (rprint_spec (v.n.natAbs + 1) v.n _ (by omega) hn) ?_; intro wb hS) | (refine zcp 101 (marked_spec v.s _ hl) ?_; intro wb hS) | (refine G.cn ?_ ?_ <;> intro hc <;> first | (with_reducible exact False.elim hc) | (exfalso; omega) | skip))
  all_goals
    (first | refine G.r1 ?_ | refine G.r2 ?_ | refine G.r3 ?_ | refine G.r0 ?_ | refine G.d0 ?_); (try simp (disch := first | exact dis | fail) only [push_cast, ↓reduceIte, Nat.reduceAdd, Nat.reduceLeDiff, Nat.reduceEqDiff, Nat.reduceLT, Int.reduceToNat, fct])
    refine ⟨?_, Sep.xt (by assumption)⟩
    clear hS
    congr 1
    (try simp only [n01b, n00b] at *)
    first | (simp_all; done) | grind
theorem fie_1 (s : Str) (nl : Bool) : fieM ⟨1, s, 0, false⟩ nl = if nl = true ∧ mkdM s = true then 92 :: s else s := by
  unfold fieM
  by_cases h : nl = true ∧ mkdM s = true <;> simp [h]
def c39 : MC := (.seq (.reg [qq 3 (.raw (.box 114 (.tmp 1)) 0), qq 4 (.alc 110 [(.int .i64 0), (S []), (.int .i64 0), (.int .i64 0)]), qq 5 (.mv (ki 0))]) (.seq (.seq (.reg [qq 8 (.fad 0 (.tmp 3)), qq 9 (.ld none (.tmp 8)), qq 10 (.bin .lss (.tmp 9) (ki 1)), qm 11 10, qf 11 12 (.fad 0 (.tmp 3)), qf 11 13 (.ld none (.tmp 12)), qf 11 14 (.bin .gtr (.tmp 13) (ki 3)), qq 15 (.pick (.tmp 11) (kb true) (.tmp 14))]) (.cond (.tmp 15) (.seq (.reg [qq 16 (.bld [(.int .i64 0), (S []), (.int .i64 0), (.int .i64 0)] []), qn (.st 4 (.tmp 4) (.tmp 16)), qq 5 (.mv (ki 22))]) .ret) .skip)) (.seq (.seq (.reg [qq 17 (.fad 1 (.tmp 3)), qq 18 (.ld none (.tmp 17)), qq 19 (.bin .eql (.tmp 18) (ki 1)), qm 20 19, qmt 20 21 0, qt 20 22 (.bin .eql (.tmp 21) (.const (S []))), qq 23 (.pick (.tmp 20) (.tmp 22) (kb false))]) (.cond (.tmp 23) (.seq (.reg [qq 24 (.bld [(.int .i64 0), (S []), (.int .i64 0), (.int .i64 0)] []), qn (.st 4 (.tmp 4) (.tmp 24)), qq 5 (.mv (ki 0))]) .ret) .skip)) (.seq (.seq (.reg [qq 25 (.fad 0 (.tmp 3)), qq 26 (.ld none (.tmp 25))]) (.blk 0 (.seq (.reg [qq 28 (.bin .eql (.tmp 26) (ki 1)), qm 27 28]) (.cond (.tmp 27) (.seq (.seq (.reg [qm 29 0, qq 30 (.call 59 [(.tmp 29)]), qm 31 0, qq 32 (.lenS (.tmp 31)), qq 33 (.bin .lss (.tmp 30) (.tmp 32))]) (.cond (.tmp 33) (.seq (.reg [qq 34 (.bld [(.int .i64 0), (S []), (.int .i64 0), (.int .i64 0)] []), qn (.st 4 (.tmp 4) (.tmp 34)), qq 5 (.mv (ki 14))]) .ret) .skip)) (.seq (.seq (.reg [qm 35 0, qq 36 (.bld [(.int .i64 0), (S []), (.int .i64 0), (.int .i64 0)] [⟨0, ⟨1, (ki 1)⟩⟩, ⟨1, ⟨1, (.tmp 35)⟩⟩]), qq 37 (.ld (.some 2) (.tmp 3)), qq 38 (.call 72 [(.tmp 36), (.tmp 37)]), qm 39 0, qq 40 (.bin .eql (.tmp 38) (.tmp 39))]) (.cond (.tmp 40) (.seq (.reg [qm 41 0, qq 42 (.bld [(.int .i64 0), (S []), (.int .i64 0), (.int .i64 0)] [⟨0, ⟨1, (ki 1)⟩⟩, ⟨1, ⟨1, (.tmp 41)⟩⟩]), qn (.st 4 (.tmp 4) (.tmp 42)), qq 5 (.mv (ki 0))]) .ret) .skip)) (.seq (.seq (.drg [qm 43 0, qq 44 (.lenS (.tmp 43)), qq 45 (.bin .gtr (.tmp 44) (ki 0)), qm 46 45, qmt 46 47 0, qt 46 48 (.slS (.tmp 47) (.some (ki 1)) none), qt 46 49 (.bld [(.int .i64 0), (S []), (.int .i64 0), (.int .i64 0)] [⟨0, ⟨1, (ki 1)⟩⟩, ⟨1, ⟨1, (.tmp 48)⟩⟩]), qt 46 50 (.ld (.some 2) (.tmp 3)), qt 46 51 (.call 72 [(.tmp 49), (.tmp 50)]), qmt 46 52 0, qt 46 53 (.bin .eql (.tmp 51) (.tmp 52)), qq 54 (.pick (.tmp 46) (.tmp 53) (kb false))] (.some (.leaf [qm 43 0, qq 44 (.lenS (.tmp 43)), qq 45 (.bin .gtr (.tmp 44) (ki 0)), qm 46 45, qmt 46 47 0, qt 46 48 (.slS (.tmp 47) (.some (ki 1)) none), qt 46 49 (.bld [(.int .i64 0), (S []), (.int .i64 0), (.int .i64 0)] [⟨0, ⟨1, (ki 1)⟩⟩, ⟨1, ⟨1, (.tmp 48)⟩⟩]), qmt 46 52 0, qt 46 50 (.ld (.some 2) (.tmp 3)), qt 46 51 (.call 72 [(.tmp 49), (.tmp 50)]), qt 46 53 (.bin .eql (.tmp 51) (.tmp 52)), qq 54 (.pick (.tmp 46) (.tmp 53) (kb false))]))) (.cond (.tmp 54) (.seq (.reg [qm 55 0, qq 56 (.slS (.tmp 55) (.some (ki 1)) none), qq 57 (.bld [(.int .i64 0), (S []), (.int .i64 0), (.int .i64 0)] [⟨0, ⟨1, (ki 1)⟩⟩, ⟨1, ⟨1, (.tmp 56)⟩⟩]), qn (.st 4 (.tmp 4) (.tmp 57)), qq 5 (.mv (ki 0))]) .ret) .skip)) (.seq (.reg [qq 58 (.bld [(.int .i64 0), (S []), (.int .i64 0), (.int .i64 0)] []), qn (.st 4 (.tmp 4) (.tmp 58)), qq 5 (.mv (ki 23))]) .ret)))) (.seq (.reg [qq 60 (.bin .eql (.tmp 26) (ki 2)), qm 59 60]) (.cond (.tmp 59) (.seq (.reg [qm 62 0, qq 63 (.call 73 [(.tmp 62)]), qm 61 63, qq 64 (.ext 0 (.tmp 61)), qq 65 (.ext 1 (.tmp 61)), qm 6 64, qm 7 65]) (.seq (.seq (.reg [qm 66 7, qq 67 (.bin .neq (.tmp 66) (ki 0))]) (.cond (.tmp 67) (.seq (.reg [qq 68 (.bld [(.int .i64 0), (S []), (.int .i64 0), (.int .i64 0)] []), qm 69 7, qn (.st 4 (.tmp 4) (.tmp 68)), qm 5 69]) .ret) .skip)) (.seq (.reg [qm 70 6, qq 71 (.bld [(.int .i64 0), (S []), (.int .i64 0), (.int .i64 0)] [⟨0, ⟨1, (ki 2)⟩⟩, ⟨2, ⟨1, (.tmp 70)⟩⟩]), qn (.st 4 (.tmp 4) (.tmp 71)), qq 5 (.mv (ki 0))]) .ret))) .skip)))))) (.seq (.seq (.reg [qm 72 0, qq 73 (.bin .eql (.tmp 72) (.const (S [116, 114, 117, 101])))]) (.cond (.tmp 73) (.seq (.reg [qq 74 (.bld [(.int .i64 0), (S []), (.int .i64 0), (.int .i64 0)] [⟨0, ⟨1, (ki 3)⟩⟩, ⟨3, ⟨1, (ki 1)⟩⟩]), qn (.st 4 (.tmp 4) (.tmp 74)), qq 5 (.mv (ki 0))]) .ret) .skip)) (.seq (.seq (.reg [qm 75 0, qq 76 (.bin .eql (.tmp 75) (.const (S [102, 97, 108, 115, 101])))]) (.cond (.tmp 76) (.seq (.reg [qq 77 (.bld [(.int .i64 0), (S []), (.int .i64 0), (.int .i64 0)] [⟨0, ⟨1, (ki 3)⟩⟩]), qn (.st 4 (.tmp 4) (.tmp 77)), qq 5 (.mv (ki 0))]) .ret) .skip)) (.seq (.reg [qq 78 (.bld [(.int .i64 0), (S []), (.int .i64 0), (.int .i64 0)] []), qn (.st 4 (.tmp 4) (.tmp 78)), qq 5 (.mv (ki 19))]) .ret)))))))
theorem k39 : conv Tryz.prog 79 (Tryz.f39.body.getD .skip) = c39 := by kernel_rfl
theorem in39 {a0 a1 : Value} {w : World} {R : Value → World → Prop} (h : G Tryz.prog Tryz.f39 79 [.c c39] R (frL 0 [a0, a1]) w) : Ret Tryz.prog 39 #[a0, a1] w R := G.enter (args := [a0, a1]) Tryz.func39 (c := Tryz.f39.body.getD .skip) (by kernel_rfl) (by kernel_rfl) (by simp) k39 h
theorem rdec_spec (s : Str) (k : Int) (nl : Bool) (w : World) (hl : s.length ≤ 1000000) : Pu Tryz.prog 39 #[S s, (.agg #[I k, I (if nl = true then 1 else 0)])] w (.tuple #[(.agg #[I (deM s k nl).1.kind, S (deM s k nl).1.s, I (deM s k nl).1.n, I (if (deM s k nl).1.b = true then 1 else 0)]), I (deM s k nl).2]) := by
  refine in39 ?_
  have hS := Sep.start w
  have hz : i64M 0 := ⟨by omega, by omega⟩
  have hwv : validM s = (wholeM s == s.length) := (bads s).2.1
  have hwl := wholeM_le _ s (Nat.le_refl _)
  have hv1 : (wholeM s : Int) < s.length → validM s = false := fun h => by rw [hwv]; simp; omega
  have hv2 : (s.length : Int) ≤ wholeM s → validM s = true := fun h => by rw [hwv]; simp; omega
  have mk1 : mkdM s = true ↔ s = [] ∨ s.take 1 = [92] := by simp [mkdM]
  have mk2 : mkdM (s.drop 1) = true ↔ s.drop 1 = [] ∨ (s.drop 1).take 1 = [92] := by simp only [mkdM, decide_eq_true_eq]
  have hA : ((if nl = true ∧ mkdM s = true then 92 :: s else s) = s) = ¬ (nl = true ∧ mkdM s = true) := by
    by_cases h : nl = true ∧ mkdM s = true
    · rw [if_pos h]; simp only [h, not_true_eq_false, and_self, eq_iff_iff, iff_false]
      intro e
      have := congrArg List.length e
      simp at this
    · rw [if_neg h]; simp only [h, not_false_eq_true]
  have hB : nl = true → s.take 1 = [92] → (((if nl = true ∧ mkdM (s.drop 1) = true then 92 :: s.drop 1 else s.drop 1) = s) ↔ mkdM (s.drop 1) = true) := by
    intro h1 h2
    obtain ⟨r, rfl⟩ : ∃ r, s = 92 :: r := by
      cases s with
      | nil => simp at h2
      | cons b r => simp at h2; exact ⟨r, by rw [h2]⟩
    simp only [List.drop_succ_cons, List.drop_zero, h1, true_and]
    by_cases hm : mkdM r = true
    · rw [if_pos hm]; simp [hm]
    · rw [if_neg hm]
      constructor
      · intro e
        have := congrArg List.length e
        simp at this
      · intro h; exact absurd h hm
  clear hwv
  (have fct := @fie_1; repeat' (first | ((with_reducible apply G.a); exact rfl) | refine G.reg fun K hK => ?_ | (with_reducible (refine hK _ _ ?_); clear hK K) | (with_reducible (refine hK _ ?_); clear hK K; intro wd hxd; have hS := Sep.xx hxd) | (have hk := hK; clear hk; simp (disch := first | exact dis | fail) only [push_cast, ↓reduceIte, Nat.reduceAdd, Nat.reduceLeDiff, Nat.reduceEqDiff, Nat.reduceLT, Int.reduceToNat, fct]) | ((first | refine brO_n ?_ ?_ | refine brQ_n ?_ ?_) <;> intro hb hc <;> first | (with_reducible exact False.elim hc) | (exfalso; omega) | (simp only [hb]; clear hb)) | ((first | refine zalc ?_ | ((with_reducible refine gBox ?_); refine zbox ?_)); intro gb wb hS) | ((with_reducible refine gSt ?_); refine zs2 ?_; intro wb hS) | (refine zcp 59 (whole_spec _ _ (by omega)) ?_; intro wb hS) | (refine zcp 73 (rparse16_spec s _ hl) ?_; intro wb hS) | ((with_reducible (show CallK _ 72 [Value.agg #[_, S s, _, _], _] _ _ _ _)); refine zcp 72 (field_spec ⟨1, s, 0, false⟩ k nl _ hl hz) ?_; intro wb hS) | (refine zcp 72 (field_spec ⟨1, s.drop 1, 0, false⟩ k nl _ (by simp; omega) hz) ?_; intro wb hS) | (refine G.drt mixed fun K hK wd hxd => ?_; have hS := Sep.xx hxd) | with_reducible refine OT_leaf ?_ | refine G.drg mixed fun K hK => ?_ | (refine G.cn ?_ ?_ <;> intro hc <;> first | (with_reducible exact False.elim hc) | (exfalso; omega) | skip))) <;> (try clear fct)
  all_goals
    (first | refine G.r1 ?_ | refine G.r2 ?_ | refine G.r3 ?_ | refine G.r0 ?_ | refine G.d0 ?_); (try simp (disch := first | exact dis | fail) only [push_cast, ↓reduceIte, Nat.reduceAdd, Nat.reduceLeDiff, Nat.reduceEqDiff, Nat.reduceLT, Int.reduceToNat, fct])
    refine ⟨?_, Sep.xt (by assumption)⟩
    clear hS hwl
    first
      | refine de_finR (v := ⟨0, [], 0, false⟩) ?_
      | refine de_finR (v := ⟨2, [], (pnM s).1, false⟩) ?_
      | refine de_finR (v := ⟨3, [], 0, true⟩) ?_
      | refine de_finR (v := ⟨3, [], 0, false⟩) ?_
      | refine de_finR (v := ⟨1, s, 0, false⟩) ?_
      | refine de_finR (v := ⟨1, s.drop 1, 0, false⟩) ?_
    (try simp only [n01b, n00b, hA] at *)
    unfold deM
    first | (simp_all; done) | grind
end Go.Proofs.YtdikpaochhacmaaGreatDoor
