/- Texts of the proof, joined. -/
import Derived.Test.YtjajihaeoolefaaDooryV25
import Derived.Test.YtjajihaeoolefaaDooryA25
import Derived.Test.YtjajihaeoolefaaDooryW20
namespace Go.Proofs.YtjajihaeoolefaaDoor
set_option linter.unusedSimpArgs false
set_option linter.unusedVariables false
attribute [local irreducible] SemK UnitK StK AlcK BslK CallK CallV Instr.box Builtin.append_ Instr.makeSlice Instr.makeMap Instr.lookup Instr.mapUpdate Instr.sliceAt convert
open Go.RowKit
abbrev Slv := Bool × Int × Value × Value
def eSl : Enc Slv := ⟨4, fun x => [.bool x.1, I x.2.1, x.2.2.1, x.2.2.2], fun _ => rfl⟩
instance : EncSz eSl 4 := ⟨rfl⟩
theorem eSl_f (x : Slv) : eSl.f x = [.bool x.1, I x.2.1, x.2.2.1, x.2.2.2] := rfl
attribute [push_cast] eSl_f
def sl0 : Slv := (false, 0, .slice none 0 0, .slice none 0 0)
def RdSl (w : World) (x : Slv) : Option Chg → Prop
  | none => x = sl0
  | some c => x.1 = true ∧ x.2.1 = c.kind ∧ Rd w eVal x.2.2.1 c.old ∧ Rd w eVal x.2.2.2 c.new
theorem RdSl.ext {w w' : World} {x : Slv} {s : Option Chg} (h : RdSl w x s) (hx : Ext w w') : RdSl w' x s := by
  cases s with
  | none => exact h
  | some c => exact ⟨h.1, h.2.1, h.2.2.1.ext hx, h.2.2.2.ext hx⟩
theorem rd_nilV {α : Type} (E : Enc α) (w : World) : Rd w E (.slice none 0 0) ([] : List α) := ⟨none, 0, rfl, by simp, by simp, by simp, fun h0 => by simp at h0⟩
def TogR (w0 w : World) (t : Option (Option Chg)) (res : Value) (w' : World) : Prop := ∃ y : Slv, res = .tuple #[.agg #[.bool y.1, I y.2.1, y.2.2.1, y.2.2.2], .bool t.isSome] ∧ RdSl w0 y (t.getD none) ∧ Ext w w'
def c38 : MC := (.seq (.reg [qq 2 (.raw (.box 104 (.tmp 0)) 0), qq 3 (.raw (.box 34 (.tmp 1)) 0), qq 4 (.alc 104 [(.bool false), (.int .i64 0), (.slice none 0 0), (.slice none 0 0)]), qq 5 (.mv (kb false))]) (.seq (.seq (.reg [qq 6 (.fad 0 (.tmp 2)), qq 7 (.ld none (.tmp 6)), qq 8 (.un .not (.tmp 7))]) (.cond (.tmp 8) (.seq (.reg [qq 9 (.ld (.some 3) (.tmp 3)), qq 10 (.bld [(.bool false), (.int .i64 0), (.slice none 0 0), (.slice none 0 0)] [⟨0, ⟨1, (kb true)⟩⟩, ⟨1, ⟨3, (.tmp 9)⟩⟩]), qn (.st 4 (.tmp 4) (.tmp 10)), qq 5 (.mv (kb true))]) .ret) .skip)) (.seq (.seq (.reg [qq 11 (.fad 1 (.tmp 2)), qq 12 (.fad 2 (.tmp 11)), qq 13 (.ld none (.tmp 12)), qq 14 (.fad 1 (.tmp 3)), qq 15 (.ld none (.tmp 14)), qq 16 (.call 27 [(.tmp 13), (.tmp 15)]), qq 17 (.un .not (.tmp 16))]) (.cond (.tmp 17) (.seq (.reg [qq 18 (.bld [(.bool false), (.int .i64 0), (.slice none 0 0), (.slice none 0 0)] []), qn (.st 4 (.tmp 4) (.tmp 18)), qq 5 (.mv (kb false))]) .ret) .skip)) (.seq (.blk 0 (.seq (.seq (.reg [qq 20 (.fad 1 (.tmp 2)), qq 21 (.fad 0 (.tmp 20)), qq 22 (.ld none (.tmp 21)), qq 23 (.bin .eql (.tmp 22) (ki 1)), qm 24 23, qt 24 25 (.fad 0 (.tmp 3)), qt 24 26 (.ld none (.tmp 25)), qt 24 27 (.bin .eql (.tmp 26) (ki 3)), qq 28 (.pick (.tmp 24) (.tmp 27) (kb false)), qm 19 28]) (.cond (.tmp 19) .skip (.reg [qq 29 (.fad 1 (.tmp 2)), qq 30 (.fad 0 (.tmp 29)), qq 31 (.ld none (.tmp 30)), qq 32 (.bin .eql (.tmp 31) (ki 2)), qm 33 32, qt 33 34 (.fad 0 (.tmp 3)), qt 33 35 (.ld none (.tmp 34)), qt 33 36 (.bin .eql (.tmp 35) (ki 2)), qq 37 (.pick (.tmp 33) (.tmp 36) (kb false)), qm 19 37]))) (.cond (.tmp 19) (.seq (.seq (.reg [qq 38 (.fad 1 (.tmp 2)), qq 39 (.fad 1 (.tmp 38)), qq 40 (.ld none (.tmp 39)), qq 41 (.fad 2 (.tmp 3)), qq 42 (.ld none (.tmp 41)), qq 43 (.call 27 [(.tmp 40), (.tmp 42)])]) (.cond (.tmp 43) (.seq (.reg [qq 44 (.bld [(.bool false), (.int .i64 0), (.slice none 0 0), (.slice none 0 0)] []), qn (.st 4 (.tmp 4) (.tmp 44)), qq 5 (.mv (kb true))]) .ret) .skip)) (.seq (.reg [qq 45 (.fad 1 (.tmp 2)), qq 46 (.fad 1 (.tmp 45)), qq 47 (.ld none (.tmp 46)), qq 48 (.fad 2 (.tmp 3)), qq 49 (.ld none (.tmp 48)), qq 50 (.bld [(.int .i64 0), (.slice none 0 0), (.slice none 0 0)] [⟨0, ⟨1, (ki 2)⟩⟩, ⟨1, ⟨1, (.tmp 47)⟩⟩, ⟨2, ⟨1, (.tmp 49)⟩⟩]), qq 51 (.bld [(.bool false), (.int .i64 0), (.slice none 0 0), (.slice none 0 0)] [⟨0, ⟨1, (kb true)⟩⟩, ⟨1, ⟨3, (.tmp 50)⟩⟩]), qn (.st 4 (.tmp 4) (.tmp 51)), qq 5 (.mv (kb true))]) .ret)) (.seq (.reg [qq 53 (.fad 1 (.tmp 2)), qq 54 (.fad 0 (.tmp 53)), qq 55 (.ld none (.tmp 54)), qq 56 (.bin .eql (.tmp 55) (ki 2)), qm 57 56, qt 57 58 (.fad 0 (.tmp 3)), qt 57 59 (.ld none (.tmp 58)), qt 57 60 (.bin .eql (.tmp 59) (ki 1)), qq 61 (.pick (.tmp 57) (.tmp 60) (kb false)), qm 52 61]) (.cond (.tmp 52) (.seq (.reg [qq 62 (.fad 1 (.tmp 2)), qq 63 (.fad 1 (.tmp 62)), qq 64 (.ld none (.tmp 63)), qq 65 (.bld [(.int .i64 0), (.slice none 0 0), (.slice none 0 0)] [⟨0, ⟨1, (ki 1)⟩⟩, ⟨1, ⟨1, (.tmp 64)⟩⟩]), qq 66 (.bld [(.bool false), (.int .i64 0), (.slice none 0 0), (.slice none 0 0)] [⟨0, ⟨1, (kb true)⟩⟩, ⟨1, ⟨3, (.tmp 65)⟩⟩]), qn (.st 4 (.tmp 4) (.tmp 66)), qq 5 (.mv (kb true))]) .ret) (.seq (.reg [qq 68 (.fad 1 (.tmp 2)), qq 69 (.fad 0 (.tmp 68)), qq 70 (.ld none (.tmp 69)), qq 71 (.bin .eql (.tmp 70) (ki 3)), qm 72 71, qt 72 73 (.fad 0 (.tmp 3)), qt 72 74 (.ld none (.tmp 73)), qt 72 75 (.bin .eql (.tmp 74) (ki 2)), qq 76 (.pick (.tmp 72) (.tmp 75) (kb false)), qm 67 76]) (.cond (.tmp 67) (.seq (.reg [qq 77 (.fad 2 (.tmp 3)), qq 78 (.ld none (.tmp 77)), qq 79 (.bld [(.int .i64 0), (.slice none 0 0), (.slice none 0 0)] [⟨0, ⟨1, (ki 3)⟩⟩, ⟨2, ⟨1, (.tmp 78)⟩⟩]), qq 80 (.bld [(.bool false), (.int .i64 0), (.slice none 0 0), (.slice none 0 0)] [⟨0, ⟨1, (kb true)⟩⟩, ⟨1, ⟨3, (.tmp 79)⟩⟩]), qn (.st 4 (.tmp 4) (.tmp 80)), qq 5 (.mv (kb true))]) .ret) (.seq (.reg [qq 82 (.fad 1 (.tmp 2)), qq 83 (.fad 0 (.tmp 82)), qq 84 (.ld none (.tmp 83)), qq 85 (.bin .eql (.tmp 84) (ki 3)), qm 86 85, qt 86 87 (.fad 0 (.tmp 3)), qt 86 88 (.ld none (.tmp 87)), qt 86 89 (.bin .eql (.tmp 88) (ki 1)), qq 90 (.pick (.tmp 86) (.tmp 89) (kb false)), qm 81 90]) (.cond (.tmp 81) (.seq (.reg [qq 91 (.bld [(.bool false), (.int .i64 0), (.slice none 0 0), (.slice none 0 0)] []), qn (.st 4 (.tmp 4) (.tmp 91)), qq 5 (.mv (kb true))]) .ret) .skip))))))))) (.seq (.reg [qq 92 (.bld [(.bool false), (.int .i64 0), (.slice none 0 0), (.slice none 0 0)] []), qn (.st 4 (.tmp 4) (.tmp 92)), qq 5 (.mv (kb false))]) .ret)))))
theorem k38 : conv Tryd.prog 93 (Tryd.f38.body.getD .skip) = c38 := by kernel_rfl
theorem in38 {a0 a1 : Value} {w : World} {R : Value → World → Prop} (h : G Tryd.prog Tryd.f38 93 [.c c38] R (frL 0 [a0, a1]) w) : Ret Tryd.prog 38 #[a0, a1] w R := G.enter (args := [a0, a1]) Tryd.func38 (c := Tryd.f38.body.getD .skip) (by kernel_rfl) (by kernel_rfl) (by simp) k38 h
set_option maxHeartbeats 2000000 in
theorem tog_spec {x : Slv} {s : Option Chg} {c : Chg} {co cn : Value} {w0 w : World} (hx0 : Ext w0 w) (hs : RdSl w0 x s) (ho : Rd w0 eVal co c.old) (hn : Rd w0 eVal cn c.new) :
    Ret Tryd.prog 38 #[.agg #[.bool x.1, I x.2.1, x.2.2.1, x.2.2.2], .agg #[I c.kind, co, cn]] w (TogR w0 w (togM s c)) := by
  refine in38 ?_
  have hS := Sep.start w
  have o1 := ho.one
  have o2 := hn.one
  cases s with
  | none =>
    simp only [RdSl] at hs
    subst hs
    simp only [sl0]
    repeat' (first | ((with_reducible apply G.a); exact rfl) | refine G.reg fun K hK => ?_ | (with_reducible (refine hK _ _ ?_); clear hK K) | (have hk := hK; clear hk; simp (disch := first | exact dis | fail) only [push_cast, ↓reduceIte, Nat.reduceAdd, Nat.reduceLeDiff, Nat.reduceEqDiff, Nat.reduceLT, Int.reduceToNat, fct]) | (refine brO_n ?_ ?_ <;> intro hb hc <;> first | (with_reducible exact False.elim hc) | (exfalso; omega) | (simp only [hb]; clear hb)) | ((first | refine zalc ?_ | ((with_reducible refine gBox ?_); refine zbox ?_)); intro gb wb hS) | ((with_reducible refine gSt ?_); refine zs2 ?_; intro wb hS) | (refine G.cn ?_ ?_ <;> intro hc <;> first | (with_reducible exact False.elim hc) | (exfalso; omega) | skip))
    all_goals
      (first | refine G.r1 ?_ | refine G.r2 ?_ | refine G.r3 ?_ | refine G.r0 ?_ | refine G.d0 ?_); (try simp (disch := first | exact dis | fail) only [push_cast, ↓reduceIte, Nat.reduceAdd, Nat.reduceLeDiff, Nat.reduceEqDiff, Nat.reduceLT, Int.reduceToNat, fct])
      exact ⟨(true, c.kind, co, cn), rfl, ⟨rfl, rfl, ho, hn⟩, Sep.xt (by assumption)⟩
  | some s =>
    obtain ⟨x1, x2, xo, xn⟩ := x
    obtain ⟨h1, h2, h3, h4⟩ := hs
    simp only [] at h1 h2 h3 h4 ⊢
    subst h1; subst h2
    have o3 := h3.one
    have o4 := h4.one
    have hq1 := fun (w2 : World) (hx : Ext w w2) => eqV_spec (w := w2) (h4.ext (hx0.trans hx)) (ho.ext (hx0.trans hx))
    have hq2 := fun (w2 : World) (hx : Ext w w2) => eqV_spec (w := w2) (h3.ext (hx0.trans hx)) (hn.ext (hx0.trans hx))
    have hT : togM (some s) c = if s.new ≠ c.old then none else if (s.kind = 1 ∧ c.kind = 3) ∨ (s.kind = 2 ∧ c.kind = 2) then (if s.old = c.new then some none else some (some ⟨2, s.old, c.new⟩))
      else if s.kind = 2 ∧ c.kind = 1 then some (some ⟨1, s.old, []⟩) else if s.kind = 3 ∧ c.kind = 2 then some (some ⟨3, [], c.new⟩) else if s.kind = 3 ∧ c.kind = 1 then some none else none := rfl
    rw [hT]
    by_cases hne : s.new = c.old
    rotate_left
    · rw [if_pos hne]
      rw [decide_eq_false hne] at hq1
      repeat' (first | ((with_reducible apply G.a); exact rfl) | refine G.reg fun K hK => ?_ | (with_reducible (refine hK _ _ ?_); clear hK K) | (have hk := hK; clear hk; simp (disch := first | exact dis | fail) only [push_cast, ↓reduceIte, Nat.reduceAdd, Nat.reduceLeDiff, Nat.reduceEqDiff, Nat.reduceLT, Int.reduceToNat, fct]) | (refine brO_n ?_ ?_ <;> intro hb hc <;> first | (with_reducible exact False.elim hc) | (exfalso; omega) | (simp only [hb]; clear hb)) | ((first | refine zalc ?_ | ((with_reducible refine gBox ?_); refine zbox ?_)); intro gb wb hS) | ((with_reducible refine gSt ?_); refine zs2 ?_; intro wb hS) | ((with_reducible (show CallK _ 27 [xn, co] _ _ _ _)); refine zcp 27 (hq1 _ hS.x) ?_; intro wb hS) | ((with_reducible (show CallK _ 27 [xo, cn] _ _ _ _)); refine zcp 27 (hq2 _ hS.x) ?_; intro wb hS) | (refine G.cn ?_ ?_ <;> intro hc <;> first | (with_reducible exact False.elim hc) | (exfalso; omega) | skip))
      all_goals
        (first | refine G.r1 ?_ | refine G.r2 ?_ | refine G.r3 ?_ | refine G.r0 ?_ | refine G.d0 ?_); (try simp (disch := first | exact dis | fail) only [push_cast, ↓reduceIte, Nat.reduceAdd, Nat.reduceLeDiff, Nat.reduceEqDiff, Nat.reduceLT, Int.reduceToNat, fct])
        exact ⟨sl0, rfl, rfl, Sep.xt (by assumption)⟩
    · rw [if_neg (not_not_intro hne)]
      rw [decide_eq_true hne] at hq1
      by_cases hA : (s.kind = 1 ∧ c.kind = 3) ∨ (s.kind = 2 ∧ c.kind = 2)
      · rw [if_pos hA]
        by_cases hq : s.old = c.new
        · rw [if_pos hq]
          rw [decide_eq_true hq] at hq2
          rcases hA with ⟨a1, a2⟩ | ⟨a1, a2⟩
          all_goals
            repeat' (first | ((with_reducible apply G.a); exact rfl) | refine G.reg fun K hK => ?_ | (with_reducible (refine hK _ _ ?_); clear hK K) | (have hk := hK; clear hk; simp (disch := first | exact dis | fail) only [push_cast, ↓reduceIte, Nat.reduceAdd, Nat.reduceLeDiff, Nat.reduceEqDiff, Nat.reduceLT, Int.reduceToNat, fct]) | (refine brO_n ?_ ?_ <;> intro hb hc <;> first | (with_reducible exact False.elim hc) | (exfalso; omega) | (simp only [hb]; clear hb)) | ((first | refine zalc ?_ | ((with_reducible refine gBox ?_); refine zbox ?_)); intro gb wb hS) | ((with_reducible refine gSt ?_); refine zs2 ?_; intro wb hS) | ((with_reducible (show CallK _ 27 [xn, co] _ _ _ _)); refine zcp 27 (hq1 _ hS.x) ?_; intro wb hS) | ((with_reducible (show CallK _ 27 [xo, cn] _ _ _ _)); refine zcp 27 (hq2 _ hS.x) ?_; intro wb hS) | (refine G.cn ?_ ?_ <;> intro hc <;> first | (with_reducible exact False.elim hc) | (exfalso; omega) | skip))
            all_goals
              (first | refine G.r1 ?_ | refine G.r2 ?_ | refine G.r3 ?_ | refine G.r0 ?_ | refine G.d0 ?_); (try simp (disch := first | exact dis | fail) only [push_cast, ↓reduceIte, Nat.reduceAdd, Nat.reduceLeDiff, Nat.reduceEqDiff, Nat.reduceLT, Int.reduceToNat, fct])
              exact ⟨sl0, rfl, rfl, Sep.xt (by assumption)⟩
        · rw [if_neg hq]
          rw [decide_eq_false hq] at hq2
          rcases hA with ⟨a1, a2⟩ | ⟨a1, a2⟩
          all_goals
            repeat' (first | ((with_reducible apply G.a); exact rfl) | refine G.reg fun K hK => ?_ | (with_reducible (refine hK _ _ ?_); clear hK K) | (have hk := hK; clear hk; simp (disch := first | exact dis | fail) only [push_cast, ↓reduceIte, Nat.reduceAdd, Nat.reduceLeDiff, Nat.reduceEqDiff, Nat.reduceLT, Int.reduceToNat, fct]) | (refine brO_n ?_ ?_ <;> intro hb hc <;> first | (with_reducible exact False.elim hc) | (exfalso; omega) | (simp only [hb]; clear hb)) | ((first | refine zalc ?_ | ((with_reducible refine gBox ?_); refine zbox ?_)); intro gb wb hS) | ((with_reducible refine gSt ?_); refine zs2 ?_; intro wb hS) | ((with_reducible (show CallK _ 27 [xn, co] _ _ _ _)); refine zcp 27 (hq1 _ hS.x) ?_; intro wb hS) | ((with_reducible (show CallK _ 27 [xo, cn] _ _ _ _)); refine zcp 27 (hq2 _ hS.x) ?_; intro wb hS) | (refine G.cn ?_ ?_ <;> intro hc <;> first | (with_reducible exact False.elim hc) | (exfalso; omega) | skip))
            all_goals
              (first | refine G.r1 ?_ | refine G.r2 ?_ | refine G.r3 ?_ | refine G.r0 ?_ | refine G.d0 ?_); (try simp (disch := first | exact dis | fail) only [push_cast, ↓reduceIte, Nat.reduceAdd, Nat.reduceLeDiff, Nat.reduceEqDiff, Nat.reduceLT, Int.reduceToNat, fct])
              exact ⟨(true, 2, xo, cn), rfl, ⟨rfl, rfl, h3, hn⟩, Sep.xt (by assumption)⟩
      · rw [if_neg hA]
        by_cases hB : s.kind = 2 ∧ c.kind = 1
        · rw [if_pos hB]
          obtain ⟨a1, a2⟩ := hB
          repeat' (first | ((with_reducible apply G.a); exact rfl) | refine G.reg fun K hK => ?_ | (with_reducible (refine hK _ _ ?_); clear hK K) | (have hk := hK; clear hk; simp (disch := first | exact dis | fail) only [push_cast, ↓reduceIte, Nat.reduceAdd, Nat.reduceLeDiff, Nat.reduceEqDiff, Nat.reduceLT, Int.reduceToNat, fct]) | (refine brO_n ?_ ?_ <;> intro hb hc <;> first | (with_reducible exact False.elim hc) | (exfalso; omega) | (simp only [hb]; clear hb)) | ((first | refine zalc ?_ | ((with_reducible refine gBox ?_); refine zbox ?_)); intro gb wb hS) | ((with_reducible refine gSt ?_); refine zs2 ?_; intro wb hS) | ((with_reducible (show CallK _ 27 [xn, co] _ _ _ _)); refine zcp 27 (hq1 _ hS.x) ?_; intro wb hS) | ((with_reducible (show CallK _ 27 [xo, cn] _ _ _ _)); refine zcp 27 (hq2 _ hS.x) ?_; intro wb hS) | (refine G.cn ?_ ?_ <;> intro hc <;> first | (with_reducible exact False.elim hc) | (exfalso; omega) | skip))
          all_goals
            (first | refine G.r1 ?_ | refine G.r2 ?_ | refine G.r3 ?_ | refine G.r0 ?_ | refine G.d0 ?_); (try simp (disch := first | exact dis | fail) only [push_cast, ↓reduceIte, Nat.reduceAdd, Nat.reduceLeDiff, Nat.reduceEqDiff, Nat.reduceLT, Int.reduceToNat, fct])
            exact ⟨(true, 1, xo, .slice none 0 0), rfl, ⟨rfl, rfl, h3, rd_nilV _ _⟩, Sep.xt (by assumption)⟩
        · rw [if_neg hB]
          by_cases hC : s.kind = 3 ∧ c.kind = 2
          · rw [if_pos hC]
            obtain ⟨a1, a2⟩ := hC
            repeat' (first | ((with_reducible apply G.a); exact rfl) | refine G.reg fun K hK => ?_ | (with_reducible (refine hK _ _ ?_); clear hK K) | (have hk := hK; clear hk; simp (disch := first | exact dis | fail) only [push_cast, ↓reduceIte, Nat.reduceAdd, Nat.reduceLeDiff, Nat.reduceEqDiff, Nat.reduceLT, Int.reduceToNat, fct]) | (refine brO_n ?_ ?_ <;> intro hb hc <;> first | (with_reducible exact False.elim hc) | (exfalso; omega) | (simp only [hb]; clear hb)) | ((first | refine zalc ?_ | ((with_reducible refine gBox ?_); refine zbox ?_)); intro gb wb hS) | ((with_reducible refine gSt ?_); refine zs2 ?_; intro wb hS) | ((with_reducible (show CallK _ 27 [xn, co] _ _ _ _)); refine zcp 27 (hq1 _ hS.x) ?_; intro wb hS) | ((with_reducible (show CallK _ 27 [xo, cn] _ _ _ _)); refine zcp 27 (hq2 _ hS.x) ?_; intro wb hS) | (refine G.cn ?_ ?_ <;> intro hc <;> first | (with_reducible exact False.elim hc) | (exfalso; omega) | skip))
            all_goals
              (first | refine G.r1 ?_ | refine G.r2 ?_ | refine G.r3 ?_ | refine G.r0 ?_ | refine G.d0 ?_); (try simp (disch := first | exact dis | fail) only [push_cast, ↓reduceIte, Nat.reduceAdd, Nat.reduceLeDiff, Nat.reduceEqDiff, Nat.reduceLT, Int.reduceToNat, fct])
              exact ⟨(true, 3, .slice none 0 0, cn), rfl, ⟨rfl, rfl, rd_nilV _ _, hn⟩, Sep.xt (by assumption)⟩
          · rw [if_neg hC]
            by_cases hD : s.kind = 3 ∧ c.kind = 1
            · rw [if_pos hD]
              obtain ⟨a1, a2⟩ := hD
              repeat' (first | ((with_reducible apply G.a); exact rfl) | refine G.reg fun K hK => ?_ | (with_reducible (refine hK _ _ ?_); clear hK K) | (have hk := hK; clear hk; simp (disch := first | exact dis | fail) only [push_cast, ↓reduceIte, Nat.reduceAdd, Nat.reduceLeDiff, Nat.reduceEqDiff, Nat.reduceLT, Int.reduceToNat, fct]) | (refine brO_n ?_ ?_ <;> intro hb hc <;> first | (with_reducible exact False.elim hc) | (exfalso; omega) | (simp only [hb]; clear hb)) | ((first | refine zalc ?_ | ((with_reducible refine gBox ?_); refine zbox ?_)); intro gb wb hS) | ((with_reducible refine gSt ?_); refine zs2 ?_; intro wb hS) | ((with_reducible (show CallK _ 27 [xn, co] _ _ _ _)); refine zcp 27 (hq1 _ hS.x) ?_; intro wb hS) | ((with_reducible (show CallK _ 27 [xo, cn] _ _ _ _)); refine zcp 27 (hq2 _ hS.x) ?_; intro wb hS) | (refine G.cn ?_ ?_ <;> intro hc <;> first | (with_reducible exact False.elim hc) | (exfalso; omega) | skip))
              all_goals
                (first | refine G.r1 ?_ | refine G.r2 ?_ | refine G.r3 ?_ | refine G.r0 ?_ | refine G.d0 ?_); (try simp (disch := first | exact dis | fail) only [push_cast, ↓reduceIte, Nat.reduceAdd, Nat.reduceLeDiff, Nat.reduceEqDiff, Nat.reduceLT, Int.reduceToNat, fct])
                exact ⟨sl0, rfl, rfl, Sep.xt (by assumption)⟩
            · rw [if_neg hD]
              repeat' (first | ((with_reducible apply G.a); exact rfl) | refine G.reg fun K hK => ?_ | (with_reducible (refine hK _ _ ?_); clear hK K) | (have hk := hK; clear hk; simp (disch := first | exact dis | fail) only [push_cast, ↓reduceIte, Nat.reduceAdd, Nat.reduceLeDiff, Nat.reduceEqDiff, Nat.reduceLT, Int.reduceToNat, fct]) | (refine brO_n ?_ ?_ <;> intro hb hc <;> first | (with_reducible exact False.elim hc) | (exfalso; omega) | (simp only [hb]; clear hb)) | ((first | refine zalc ?_ | ((with_reducible refine gBox ?_); refine zbox ?_)); intro gb wb hS) | ((with_reducible refine gSt ?_); refine zs2 ?_; intro wb hS) | ((with_reducible (show CallK _ 27 [xn, co] _ _ _ _)); refine zcp 27 (hq1 _ hS.x) ?_; intro wb hS) | ((with_reducible (show CallK _ 27 [xo, cn] _ _ _ _)); refine zcp 27 (hq2 _ hS.x) ?_; intro wb hS) | (refine G.cn ?_ ?_ <;> intro hc <;> first | (with_reducible exact False.elim hc) | (exfalso; omega) | skip))
              all_goals
                (first | refine G.r1 ?_ | refine G.r2 ?_ | refine G.r3 ?_ | refine G.r0 ?_ | refine G.d0 ?_); (try simp (disch := first | exact dis | fail) only [push_cast, ↓reduceIte, Nat.reduceAdd, Nat.reduceLeDiff, Nat.reduceEqDiff, Nat.reduceLT, Int.reduceToNat, fct])
                exact ⟨sl0, rfl, rfl, Sep.xt (by assumption)⟩
end Go.Proofs.YtjajihaeoolefaaDoor
