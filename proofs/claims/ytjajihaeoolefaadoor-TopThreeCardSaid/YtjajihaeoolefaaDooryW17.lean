/- Texts of the proof, joined. -/
import Derived.Test.YtjajihaeoolefaaDooryR02
import Derived.Test.YtjajihaeoolefaaDooryW02
namespace Go.Proofs.YtjajihaeoolefaaDoor
set_option linter.unusedSimpArgs false
set_option linter.unusedVariables false
attribute [local irreducible] SemK UnitK StK AlcK BslK CallK CallV Instr.box Builtin.append_ Instr.makeSlice Instr.makeMap Instr.lookup Instr.mapUpdate Instr.sliceAt convert
open Go.RowKit
theorem right_iff (v : Val) : rightM v = true ↔ (v.kind = 0 ∧ v.s = [] ∧ v.n = 0 ∧ v.b = false) ∨ (v.kind = 1 ∧ validM v.s = true ∧ v.n = 0 ∧ v.b = false) ∨ (v.kind = 2 ∧ v.s = [] ∧ v.b = false) ∨ (v.kind = 3 ∧ v.s = [] ∧ v.n = 0) := by
  constructor
  · intro h
    obtain ⟨⟨h0, h3, a1, a2, a3⟩, hv⟩ := right_of h
    have : v.kind = 0 ∨ v.kind = 1 ∨ v.kind = 2 ∨ v.kind = 3 := by omega
    rcases this with e | e | e | e
    · exact .inl ⟨e, a1.resolve_left (by omega), a2.resolve_left (by omega), a3.resolve_left (by omega)⟩
    · exact .inr (.inl ⟨e, hv, a2.resolve_left (by omega), a3.resolve_left (by omega)⟩)
    · exact .inr (.inr (.inl ⟨e, a1.resolve_left (by omega), a3.resolve_left (by omega)⟩))
    · exact .inr (.inr (.inr ⟨e, a1.resolve_left (by omega), a2.resolve_left (by omega)⟩))
  · have hn : validM [] = true := rfl
    rintro (⟨e, h1, h2, h3⟩ | ⟨e, h1, h2, h3⟩ | ⟨e, h1, h3⟩ | ⟨e, h1, h2⟩) <;> simp [rightM, *]
def c19 : MC := (.seq (.reg [qq 1 (.raw (.box 72 (.tmp 0)) 0), qq 2 (.mv (kb false))]) (.seq (.seq (.reg [qq 3 (.fad 0 (.tmp 1)), qq 4 (.ld none (.tmp 3)), qq 5 (.bin .lss (.tmp 4) (ki 0)), qm 6 5, qf 6 7 (.fad 0 (.tmp 1)), qf 6 8 (.ld none (.tmp 7)), qf 6 9 (.bin .gtr (.tmp 8) (ki 3)), qq 10 (.pick (.tmp 6) (kb true) (.tmp 9)), qm 11 10, qf 11 12 (.fad 0 (.tmp 1)), qf 11 13 (.ld none (.tmp 12)), qf 11 14 (.bin .neq (.tmp 13) (ki 1)), qmf 11 15 14, qt 15 16 (.fad 1 (.tmp 1)), qt 15 17 (.ld none (.tmp 16)), qt 15 18 (.bin .neq (.tmp 17) (.const (S []))), qf 11 19 (.pick (.tmp 15) (.tmp 18) (kb false)), qq 20 (.pick (.tmp 11) (kb true) (.tmp 19)), qm 21 20, qf 21 22 (.fad 0 (.tmp 1)), qf 21 23 (.ld none (.tmp 22)), qf 21 24 (.bin .neq (.tmp 23) (ki 2)), qmf 21 25 24, qt 25 26 (.fad 2 (.tmp 1)), qt 25 27 (.ld none (.tmp 26)), qt 25 28 (.bin .neq (.tmp 27) (ki 0)), qf 21 29 (.pick (.tmp 25) (.tmp 28) (kb false)), qq 30 (.pick (.tmp 21) (kb true) (.tmp 29)), qm 31 30, qf 31 32 (.fad 0 (.tmp 1)), qf 31 33 (.ld none (.tmp 32)), qf 31 34 (.bin .neq (.tmp 33) (ki 3)), qmf 31 35 34, qt 35 36 (.fad 3 (.tmp 1)), qt 35 37 (.ld none (.tmp 36)), qt 35 38 (.bin .neq (.tmp 37) (ki 0)), qf 31 39 (.pick (.tmp 35) (.tmp 38) (kb false)), qq 40 (.pick (.tmp 31) (kb true) (.tmp 39))]) (.cond (.tmp 40) (.seq (.reg [qq 2 (.mv (kb false))]) .ret) .skip)) (.seq (.drg [qq 41 (.fad 1 (.tmp 1)), qq 42 (.ld none (.tmp 41)), qq 43 (.call 43 [(.tmp 42)]), qq 44 (.fad 1 (.tmp 1)), qq 45 (.ld none (.tmp 44)), qq 46 (.lenS (.tmp 45)), qq 47 (.bin .eql (.tmp 43) (.tmp 46)), qm 2 47] (.some (.br [qq 41 (.fad 1 (.tmp 1)), qq 44 (.fad 1 (.tmp 1))] (.br [qq 42 (.ld none (.tmp 41))] (.leaf [qq 43 (.call 43 [(.tmp 42)]), qq 45 (.ld none (.tmp 44)), qq 46 (.lenS (.tmp 45)), qq 47 (.bin .eql (.tmp 43) (.tmp 46)), qm 2 47]) (.leaf [qq 45 (.ld none (.tmp 44)), qq 46 (.lenS (.tmp 45)), qq 43 (.call 43 [(.tmp 42)]), qq 47 (.bin .eql (.tmp 43) (.tmp 46)), qm 2 47])) (.leaf [qq 45 (.ld none (.tmp 44)), qq 46 (.lenS (.tmp 45)), qq 42 (.ld none (.tmp 41)), qq 43 (.call 43 [(.tmp 42)]), qq 47 (.bin .eql (.tmp 43) (.tmp 46)), qm 2 47])))) .ret)))
theorem k19 : conv Tryd.prog 48 (Tryd.f19.body.getD .skip) = c19 := by kernel_rfl
theorem in19 {a0 : Value} {w : World} {R : Value → World → Prop} (h : G Tryd.prog Tryd.f19 48 [.c c19] R (frL 0 [a0]) w) : Ret Tryd.prog 19 #[a0] w R := G.enter (args := [a0]) Tryd.func19 (c := Tryd.f19.body.getD .skip) (by kernel_rfl) (by kernel_rfl) (by simp) k19 h
theorem rright17_spec (v : Val) (w : World) (hl : v.s.length ≤ 1000000) : Pu Tryd.prog 19 #[(.agg #[I v.kind, S v.s, I v.n, I (if v.b = true then 1 else 0)])] w (.bool (rightM v)) := by
  refine in19 ?_
  have hS := Sep.start w
  have hw : ((wholeM v.s : Int) == v.s.length) = validM v.s := by rw [(bads v.s).2.1, Bool.eq_iff_iff]; simp; omega
  have hnil : v.s = [] → validM v.s = true := fun e => by rw [e]; rfl
  repeat' (first | ((with_reducible apply G.a); exact rfl) | refine G.reg fun K hK => ?_ | (with_reducible (refine hK _ _ ?_); clear hK K) | (with_reducible (refine hK _ ?_); clear hK K; intro wd hxd; have hS := Sep.xx hxd) | ((first | have hk := hK | have hk := hK2); clear hk; simp (disch := first | exact dis | fail) only [push_cast, ↓reduceIte, Nat.reduceAdd, Nat.reduceLeDiff, Nat.reduceEqDiff, Nat.reduceLT, Int.reduceToNat, fct]) | ((first | refine brO_n ?_ ?_ | refine brQ_n ?_ ?_) <;> intro hb hc <;> first | (with_reducible exact False.elim hc) | (exfalso; omega) | (simp only [hb]; clear hb)) | (((with_reducible refine gBox ?_); refine zbox ?_); intro gb wb hS) | (refine zcp 43 (whole_spec _ _ (by omega)) ?_; intro wb hS) | (refine G.drt mixed fun K hK wd hxd => ?_; have hS := Sep.xx hxd) | with_reducible refine OT_leaf ?_ | (with_reducible (refine hK2 _ ?_); clear hK2 K2; intro wd hxd; have hS := Sep.xx hxd) | with_reducible refine OT_br fun K2 hK2 => ?_ | (refine hK2 _ _ ?_ ?_ <;> clear hK2 K2) | refine G.drg mixed fun K hK => ?_ | (refine G.cn ?_ ?_ <;> intro hc <;> first | (with_reducible exact False.elim hc) | (exfalso; omega) | skip))
  all_goals
    (have fct := @hw; (first | refine G.r1 ?_ | refine G.r2 ?_ | refine G.r3 ?_ | refine G.r0 ?_ | refine G.d0 ?_); (try simp (disch := first | exact dis | fail) only [push_cast, ↓reduceIte, Nat.reduceAdd, Nat.reduceLeDiff, Nat.reduceEqDiff, Nat.reduceLT, Int.reduceToNat, fct]); (try clear fct))
    refine ⟨?_, Sep.xt (by assumption)⟩
    clear hS hw
    congr 1
    rw [Bool.eq_iff_iff, right_iff]
    generalize validM v.s = q at *
    first | (simp_all; done) | grind
def c20 : MC := (.seq (.reg [qq 1 (.raw (.box 69 (.tmp 0)) 0), qq 2 (.alc 72 [(.int .i64 0), (S []), (.int .i64 0), (.int .i64 0)])]) (.seq (.reg [qq 4 (.fad 0 (.tmp 1)), qq 5 (.ld none (.tmp 4)), qq 6 (.fad 1 (.tmp 1)), qq 7 (.ld none (.tmp 6)), qq 8 (.fad 2 (.tmp 1)), qq 9 (.ld none (.tmp 8)), qq 10 (.bld [(.int .i64 0), (S []), (.int .i64 0), (.int .i64 0)] [⟨0, ⟨1, (.tmp 5)⟩⟩, ⟨1, ⟨1, (.tmp 7)⟩⟩, ⟨2, ⟨1, (.tmp 9)⟩⟩]), qq 3 (.alc 72 [(.int .i64 0), (S []), (.int .i64 0), (.int .i64 0)]), qn (.st 4 (.tmp 3) (.tmp 10))]) (.seq (.seq (.reg [qq 11 (.fad 3 (.tmp 1)), qq 12 (.ld none (.tmp 11))]) (.cond (.tmp 12) (.reg [qq 13 (.fad 3 (.tmp 3)), qn (.st 1 (.tmp 13) (ki 1))]) .skip)) (.seq (.reg [qq 14 (.ld (.some 4) (.tmp 3)), qn (.st 4 (.tmp 2) (.tmp 14))]) .ret))))
theorem k20 : conv Tryd.prog 15 (Tryd.f20.body.getD .skip) = c20 := by kernel_rfl
theorem in20 {a0 : Value} {w : World} {R : Value → World → Prop} (h : G Tryd.prog Tryd.f20 15 [.c c20] R (frL 0 [a0]) w) : Ret Tryd.prog 20 #[a0] w R := G.enter (args := [a0]) Tryd.func20 (c := Tryd.f20.body.getD .skip) (by kernel_rfl) (by kernel_rfl) (by simp) k20 h
theorem ref17_spec (v : Val) (w : World) : Pu Tryd.prog 20 #[(.agg #[I v.kind, S v.s, I v.n, .bool v.b])] w (.agg #[I v.kind, S v.s, I v.n, I (if v.b = true then 1 else 0)]) := by
  refine in20 ?_
  have hS := Sep.start w
  repeat' (first | ((with_reducible apply G.a); exact rfl) | refine G.reg fun K hK => ?_ | (with_reducible (refine hK _ _ ?_); clear hK K) | (have hk := hK; clear hk; simp (disch := first | exact dis | fail) only [push_cast, ↓reduceIte, Nat.reduceAdd, Nat.reduceLeDiff, Nat.reduceEqDiff, Nat.reduceLT, Int.reduceToNat, fct]) | ((first | refine zalc ?_ | ((with_reducible refine gBox ?_); refine zbox ?_)); intro gb wb hS) | ((with_reducible refine gSt ?_); refine zs2 ?_; intro wb hS) | (refine G.cn ?_ ?_ <;> intro hc <;> first | (with_reducible exact False.elim hc) | (exfalso; omega) | skip))
  all_goals
    (first | refine G.r1 ?_ | refine G.r2 ?_ | refine G.r3 ?_ | refine G.r0 ?_ | refine G.d0 ?_); (try simp (disch := first | exact dis | fail) only [push_cast, ↓reduceIte, Nat.reduceAdd, Nat.reduceLeDiff, Nat.reduceEqDiff, Nat.reduceLT, Int.reduceToNat, fct])
    refine ⟨?_, Sep.xt (by assumption)⟩
    simp [hc]
end Go.Proofs.YtjajihaeoolefaaDoor
