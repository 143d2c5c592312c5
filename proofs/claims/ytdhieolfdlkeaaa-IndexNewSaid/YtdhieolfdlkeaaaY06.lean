/- Chapters 05, 06: Take; the walker's step and end. -/
import Derived.Test.YtdhieolfdlkeaaaX06
namespace Go.Proofs.Ytdhieolfdlkeaaa
set_option linter.unusedSimpArgs false
set_option linter.unusedVariables false
attribute [local irreducible] SemK UnitK StK AlcK BslK CallK CallV Instr.box Builtin.append_ Instr.makeSlice Instr.makeMap Instr.lookup Instr.mapUpdate Instr.sliceAt convert
open Go.RowKit
def TRes (w0 w' : World) (g : Nat) (l : Lm) (M : List Chk) (res : Value) : Except Int (Mk × Option (List Str)) → Prop
  | .error k => res = (.tuple #[.slice none 0 0, .bool false, I k]) ∧ Sep w0 w' M
  | .ok (m', none) => res = (.tuple #[.slice none 0 0, .bool false, I 0]) ∧ MkS w0 w' g l m' M
  | .ok (m', some r) => ∃ rv, res = .tuple #[rv, .bool true, I 0] ∧ MkS w0 w' g l m' (accC rv 9 eS r :: M)
theorem out_0 {m : Mk} (h : (m.ct : Int) = 0) : m.out = ⟨m.fl, [], m.bg, m.ct + 1, m.rc.length⟩ := by
  have : m.ct = 0 := by omega
  simp [Mk.out, this]
theorem out_1 {m : Mk} (h : ¬ (m.ct : Int) = 0) : m.out = ⟨m.fl, [], m.bg, m.ct + 1, m.wd⟩ := by
  have : ¬ m.ct = 0 := by omega
  simp [Mk.out, this]
theorem put_bd {n : Nat} {m : Mk} (h : bdM n m) : bdM (n + 1) m.put := by
  obtain ⟨b1, b2, b3, b4⟩ := h
  refine ⟨by simp [Mk.put], by simp [Mk.put]; omega, by simp only [Mk.put]; omega, by simp only [Mk.put]; omega⟩
theorem bd_mono {n k : Nat} {m : Mk} (h : bdM n m) (hk : n ≤ k) : bdM k m := ⟨by have := h.1; omega, by have := h.2.1; omega, by have := h.2.2.1; omega, by have := h.2.2.2; omega⟩
theorem gather_bd {n : Nat} {l : Lm} {m m' : Mk} {e : Ev} (h : bdM n m) (hg : gather l m e = .ok m') : bdM (n + 2) m' := by
  unfold gather at hg
  split at hg
  · simp at hg
  · rename_i m1 h1
    have g1 : m1.fl.length ≤ n ∧ m1.rc.length ≤ n ∧ m1.bg ≤ n + 1 ∧ m1.ct ≤ n := by
      obtain ⟨b1, b2, b3, b4⟩ := h
      unfold gBegin at h1
      split at h1
      · split at h1
        · simp at h1
        · injection h1 with h1; subst h1; exact ⟨b1, b2, by simp; omega, b4⟩
      · injection h1 with h1; subst h1; exact ⟨b1, b2, by omega, b4⟩
    split at hg
    · simp at hg
    · rename_i m2 h2
      have g2 : m2.fl.length ≤ n + 1 ∧ m2.rc.length ≤ n ∧ m2.bg ≤ n + 1 ∧ m2.ct ≤ n := by
        obtain ⟨b1, b2, b3, b4⟩ := g1
        unfold gAdd at h2
        split at h2
        · split at h2
          · simp at h2
          · injection h2 with h2; subst h2; exact ⟨by simp; omega, b2, b3, b4⟩
        · injection h2 with h2; subst h2; exact ⟨by omega, b2, b3, b4⟩
      split at hg
      · simp at hg
      · rename_i m3 h3
        have g3 : m3.fl.length ≤ n + 1 ∧ m3.rc.length ≤ n + 1 ∧ m3.bg ≤ n + 1 ∧ m3.ct ≤ n := by
          obtain ⟨b1, b2, b3, b4⟩ := g2
          unfold gField at h3
          split at h3
          · split at h3
            · simp at h3
            · split at h3
              · simp at h3
              · injection h3 with h3; subst h3; exact ⟨by simp [Mk.put], by simp [Mk.put]; omega, b3, b4⟩
          · injection h3 with h3; subst h3; exact ⟨b1, by omega, b3, b4⟩
        obtain ⟨b1, b2, b3, b4⟩ := g3
        unfold gLine at hg
        split at hg
        · split at hg
          · simp at hg
          · injection hg with hg; subst hg; exact ⟨by simp [Mk.put], by simp [Mk.put]; omega, by simp only [Mk.put]; omega, by simp only [Mk.put]; omega⟩
        · injection hg with hg; subst hg; exact ⟨by omega, by omega, by omega, by omega⟩
theorem take_bd {n : Nat} {l : Lm} {m : Mk} {e : Ev} {x : Mk × Option (List Str)} (h : bdM n m) (hg : takeM l m e = .ok x) : bdM (n + 3) x.1 := by
  unfold takeM at hg
  split at hg
  · simp at hg
  · rename_i m' h1
    obtain ⟨b1, b2, b3, b4⟩ := gather_bd h h1
    split at hg
    · injection hg with hg; subst hg; exact ⟨by simp only [Mk.out]; omega, by simp [Mk.out], by simp only [Mk.out]; omega, by simp only [Mk.out]; omega⟩
    · injection hg with hg; subst hg; exact ⟨by simp only; omega, by simp only; omega, by simp only; omega, by simp only; omega⟩
def c111 : MC := (.seq (.reg [qq 3 (.raw (.box 151 (.tmp 1)) 0), qq 4 (.mv (.const (.slice none 0 0))), qq 5 (.mv (kb false)), qq 6 (.mv (ki 0))]) (.seq (.seq (.reg [qm 8 0, qq 9 (.nck (.tmp 8)), qq 10 (.fad 9 (.tmp 9)), qq 11 (.ld none (.tmp 10)), qq 12 (.bin .eql (.tmp 11) (ki 0))]) (.cond (.tmp 12) (.reg [qm 13 0, qm 14 0, qq 15 (.ld (.some 6) (.tmp 3)), qq 16 (.call 145 [(.tmp 14), (.tmp 15)]), qq 17 (.nck (.tmp 13)), qq 18 (.fad 9 (.tmp 17)), qn (.st 1 (.tmp 18) (.tmp 16))]) .skip)) (.seq (.seq (.reg [qm 19 0, qq 20 (.nck (.tmp 19)), qq 21 (.fad 9 (.tmp 20)), qq 22 (.ld none (.tmp 21)), qq 23 (.bin .neq (.tmp 22) (ki 0))]) (.cond (.tmp 23) (.seq (.drg [qm 24 0, qq 25 (.nck (.tmp 24)), qq 26 (.fad 9 (.tmp 25)), qq 27 (.ld none (.tmp 26)), qq 4 (.mv (.const (.slice none 0 0))), qq 5 (.mv (kb false)), qm 6 27] none) .ret) .skip)) (.seq (.seq (.reg [qq 28 (.fad 4 (.tmp 3)), qq 29 (.ld none (.tmp 28)), qq 30 (.un .not (.tmp 29))]) (.cond (.tmp 30) (.seq (.reg [qq 4 (.mv (.const (.slice none 0 0))), qq 5 (.mv (kb false)), qq 6 (.mv (ki 0))]) .ret) .skip)) (.seq (.reg [qm 31 0, qq 32 (.nck (.tmp 31)), qq 33 (.fad 5 (.tmp 32)), qq 34 (.ld none (.tmp 33)), qm 7 34]) (.seq (.reg [qm 35 0, qq 36 (.nck (.tmp 35)), qq 37 (.fad 5 (.tmp 36)), qn (.st 1 (.tmp 37) (.const (.slice none 0 0)))]) (.seq (.seq (.reg [qm 38 0, qq 39 (.nck (.tmp 38)), qq 40 (.fad 7 (.tmp 39)), qq 41 (.ld none (.tmp 40)), qq 42 (.bin .eql (.tmp 41) (ki 0))]) (.cond (.tmp 42) (.reg [qm 43 0, qm 44 7, qq 45 (.len (.tmp 44)), qq 46 (.nck (.tmp 43)), qq 47 (.fad 8 (.tmp 46)), qn (.st 1 (.tmp 47) (.tmp 45))]) .skip)) (.seq (.reg [qm 48 0, qq 49 (.nck (.tmp 48)), qq 50 (.fad 7 (.tmp 49)), qq 51 (.ld none (.tmp 50)), qq 52 (.bin .add (.tmp 51) (ki 1)), qq 53 (.nck (.tmp 48)), qq 54 (.fad 7 (.tmp 53)), qn (.st 1 (.tmp 54) (.tmp 52))]) (.seq (.reg [qm 55 7, qm 4 55, qq 5 (.mv (kb true)), qq 6 (.mv (ki 0))]) .ret)))))))))
theorem k111 : conv Try.prog 56 (Try.f111.body.getD .skip) = c111 := by kernel_rfl
theorem in111 {a0 a1 : Value} {w : World} {R : Value → World → Prop} (h : G Try.prog Try.f111 56 [.c c111] R (frL 0 [a0, a1]) w) : Ret Try.prog 111 #[a0, a1] w R := G.enter (args := [a0, a1]) Try.func111 (c := Try.f111.body.getD .skip) (by kernel_rfl) (by kernel_rfl) (by simp) k111 h
set_option maxHeartbeats 1000000 in
theorem mtake_spec {g : Nat} {l : Lm} {m : Mk} {e : Ev} {M : List Chk} {w w0 : World} (hM : MkS w0 w g l m M) (hb : bdM 900000000 m) (he : okEv e) :
    Ret Try.prog 111 #[.pointer (some ⟨g, 0, none⟩), (.agg #[.bool e.b, .bool e.a, .bool e.f, .bool e.l, .bool e.r, U e.c.toNat])] w fun res w' => TRes w0 w' g l M res (takeM l m e) := by
  refine in111 ?_
  obtain ⟨fv, rv, hS⟩ := hM
  unfold takeM
  obtain ⟨eb, ea, ef, el, er, ec⟩ := e
  cases hg : gather l m ⟨eb, ea, ef, el, er, ec⟩ with
  | error k =>
    have hk := gather_err hg
    repeat' (first | ((with_reducible apply G.a); exact rfl) | refine G.reg fun K hK => ?_ | (with_reducible (refine hK _ _ ?_); clear hK K) | (with_reducible (refine hK _ ?_); clear hK K; intro wd hxd; have hS := Sep.xx hxd) | ((first | have hk := hK | have hk := hK2); clear hk; simp (disch := (first | exact dis | fail)) only [push_cast, ↓reduceIte, Nat.reduceAdd, Nat.reduceLeDiff, Nat.reduceEqDiff, Nat.reduceLT, Int.reduceToNat, fct]) | ((first | refine brO_n ?_ ?_ | refine brQ_n ?_ ?_) <;> intro hb hc <;> first | (with_reducible exact False.elim hc) | (exfalso; omega) | (simp only [hb]; clear hb)) | ((first | refine zalc ?_ | refine zbsl ?_ | ((with_reducible refine gBox ?_); refine zbox ?_)); intro gb wb hS) | ((with_reducible refine gSt ?_); refine zs2 ?_; intro wb hS) | (refine zcv ?_) | ((with_reducible (show CallK _ 145 _ _ _ _ _)); have hx := MkS.of (l := l) (m := m) hS (by repeat constructor) (by repeat constructor) (by repeat constructor); refine zco 145 (gather_spec (e := ⟨eb, ea, ef, el, _, ec⟩) hx hb he) ?_; clear hx; intro vb wb hG; rw [hg] at hG; obtain ⟨rfl, m2, fv2, rv2, hS⟩ := hG) | (refine G.drt mixed fun K hK wd hxd => ?_; have hS := Sep.xx hxd) | with_reducible refine OT_leaf ?_ | (with_reducible refine OT_tail fun K2 hK2 => ?_) | (with_reducible (refine hK2 _ ?_); clear hK2 K2; intro wd hxd; have hS := Sep.xx hxd) | with_reducible refine OT_br fun K2 hK2 => ?_ | (refine hK2 _ _ ?_ ?_ <;> clear hK2 K2) | refine G.drg mixed fun K hK => ?_ | (refine G.cn ?_ ?_ <;> intro hc <;> first | (with_reducible exact False.elim hc) | (exfalso; omega) | skip))
    all_goals
      ((first | apply G.rv1 rfl | apply G.rv2 rfl | apply G.rv3 rfl | apply G.ret0 rfl) <;> first | exact RV.tmp | exact zag2 | skip); (try simp (disch := (first | exact dis | fail)) only [push_cast, ↓reduceIte, Nat.reduceAdd, Nat.reduceLeDiff, Nat.reduceEqDiff, Nat.reduceLT, Int.reduceToNat, fct])
      exact ⟨rfl, Sep.sub hS (by repeat first | exact Sub.rfl' | (refine Sub.c (by repeat constructor) ?_) | refine Sub.skip ?_)⟩
  | ok m2 =>
    obtain ⟨b1, b2, b3, b4⟩ := gather_bd hb hg
    cases er
    · simp only [Bool.false_eq_true, if_false]
      repeat' (first | ((with_reducible apply G.a); exact rfl) | refine G.reg fun K hK => ?_ | (with_reducible (refine hK _ _ ?_); clear hK K) | (with_reducible (refine hK _ ?_); clear hK K; intro wd hxd; have hS := Sep.xx hxd) | ((first | have hk := hK | have hk := hK2); clear hk; simp (disch := (first | exact dis | fail)) only [push_cast, ↓reduceIte, Nat.reduceAdd, Nat.reduceLeDiff, Nat.reduceEqDiff, Nat.reduceLT, Int.reduceToNat, fct]) | ((first | refine brO_n ?_ ?_ | refine brQ_n ?_ ?_) <;> intro hb hc <;> first | (with_reducible exact False.elim hc) | (exfalso; omega) | (simp only [hb]; clear hb)) | ((first | refine zalc ?_ | refine zbsl ?_ | ((with_reducible refine gBox ?_); refine zbox ?_)); intro gb wb hS) | ((with_reducible refine gSt ?_); refine zs2 ?_; intro wb hS) | (refine zcv ?_) | ((with_reducible (show CallK _ 145 _ _ _ _ _)); have hx := MkS.of (l := l) (m := m) hS (by repeat constructor) (by repeat constructor) (by repeat constructor); refine zco 145 (gather_spec (e := ⟨eb, ea, ef, el, _, ec⟩) hx hb he) ?_; clear hx; intro vb wb hG; rw [hg] at hG; obtain ⟨rfl, fv2, rv2, hS⟩ := hG) | (refine G.drt mixed fun K hK wd hxd => ?_; have hS := Sep.xx hxd) | with_reducible refine OT_leaf ?_ | (with_reducible refine OT_tail fun K2 hK2 => ?_) | (with_reducible (refine hK2 _ ?_); clear hK2 K2; intro wd hxd; have hS := Sep.xx hxd) | with_reducible refine OT_br fun K2 hK2 => ?_ | (refine hK2 _ _ ?_ ?_ <;> clear hK2 K2) | refine G.drg mixed fun K hK => ?_ | (refine G.cn ?_ ?_ <;> intro hc <;> first | (with_reducible exact False.elim hc) | (exfalso; omega) | skip))
      all_goals
        ((first | apply G.rv1 rfl | apply G.rv2 rfl | apply G.rv3 rfl | apply G.ret0 rfl) <;> first | exact RV.tmp | exact zag2 | skip); (try simp (disch := (first | exact dis | fail)) only [push_cast, ↓reduceIte, Nat.reduceAdd, Nat.reduceLeDiff, Nat.reduceEqDiff, Nat.reduceLT, Int.reduceToNat, fct])
        exact ⟨rfl, _, _, Sep.sub hS (by repeat first | exact Sub.rfl' | (refine Sub.c (by repeat constructor) ?_) | refine Sub.skip ?_)⟩
    · simp only [if_true]
      repeat' (first | ((with_reducible apply G.a); exact rfl) | refine G.reg fun K hK => ?_ | (with_reducible (refine hK _ _ ?_); clear hK K) | (with_reducible (refine hK _ ?_); clear hK K; intro wd hxd; have hS := Sep.xx hxd) | ((first | have hk := hK | have hk := hK2); clear hk; simp (disch := (first | exact dis | fail)) only [push_cast, ↓reduceIte, Nat.reduceAdd, Nat.reduceLeDiff, Nat.reduceEqDiff, Nat.reduceLT, Int.reduceToNat, fct]) | ((first | refine brO_n ?_ ?_ | refine brQ_n ?_ ?_) <;> intro hb hc <;> first | (with_reducible exact False.elim hc) | (exfalso; omega) | (simp only [hb]; clear hb)) | ((first | refine zalc ?_ | refine zbsl ?_ | ((with_reducible refine gBox ?_); refine zbox ?_)); intro gb wb hS) | ((with_reducible refine gSt ?_); refine zs2 ?_; intro wb hS) | (refine zcv ?_) | ((with_reducible (show CallK _ 145 _ _ _ _ _)); have hx := MkS.of (l := l) (m := m) hS (by repeat constructor) (by repeat constructor) (by repeat constructor); refine zco 145 (gather_spec (e := ⟨eb, ea, ef, el, _, ec⟩) hx hb he) ?_; clear hx; intro vb wb hG; rw [hg] at hG; obtain ⟨rfl, fv2, rv2, hS⟩ := hG) | (refine G.drt mixed fun K hK wd hxd => ?_; have hS := Sep.xx hxd) | with_reducible refine OT_leaf ?_ | (with_reducible refine OT_tail fun K2 hK2 => ?_) | (with_reducible (refine hK2 _ ?_); clear hK2 K2; intro wd hxd; have hS := Sep.xx hxd) | with_reducible refine OT_br fun K2 hK2 => ?_ | (refine hK2 _ _ ?_ ?_ <;> clear hK2 K2) | refine G.drg mixed fun K hK => ?_ | (refine G.cn ?_ ?_ <;> intro hc <;> first | (with_reducible exact False.elim hc) | (exfalso; omega) | skip))
      all_goals
        ((first | apply G.rv1 rfl | apply G.rv2 rfl | apply G.rv3 rfl | apply G.ret0 rfl) <;> first | exact RV.tmp | exact zag2 | skip); (try simp (disch := (first | exact dis | fail)) only [push_cast, ↓reduceIte, Nat.reduceAdd, Nat.reduceLeDiff, Nat.reduceEqDiff, Nat.reduceLT, Int.reduceToNat, fct])
        have hS := hS.nil 9 eS
        first | rw [out_0 (m := m2) (by assumption)] | rw [out_1 (m := m2) (by assumption)]
        exact ⟨_, rfl, fv2, .slice none 0 0, Sep.sub hS (by repeat first | exact Sub.rfl' | (refine Sub.c (by repeat constructor) ?_) | refine Sub.skip ?_)⟩
end Go.Proofs.Ytdhieolfdlkeaaa
