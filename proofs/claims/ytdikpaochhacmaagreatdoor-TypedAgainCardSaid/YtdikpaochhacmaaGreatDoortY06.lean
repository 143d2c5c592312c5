/- Texts of the proof, joined. -/
import Derived.Test.YtdikpaochhacmaaGreatDoortV06
namespace Go.Proofs.YtdikpaochhacmaaGreatDoor
set_option linter.unusedSimpArgs false
set_option linter.unusedVariables false
attribute [local irreducible] SemK UnitK StK AlcK BslK CallK CallV Instr.box Builtin.append_ Instr.makeSlice Instr.makeMap Instr.lookup Instr.mapUpdate Instr.sliceAt convert
open Go.RowKit
def TRes (w0 w' : World) (g : Nat) (l : Lm) (M : List Chk) (res : Value) : Except Int (Mk × Option (List Str)) → Prop
  | .error k => res = (.tuple #[.slice none 0 0, .bool false, I k]) ∧ Sep w0 w' M
  | .ok (m', none) => res = (.tuple #[.slice none 0 0, .bool false, I 0]) ∧ MkS w0 w' g l m' M
  | .ok (m', some r) => ∃ rv, res = .tuple #[rv, .bool true, I 0] ∧ MkS w0 w' g l m' (accC rv 9 eS r :: M)
theorem out_0 {m : Mk} (h : (m.ct : Int) = 0) : m.out = ⟨m.fl, [], m.bg, m.ct + 1, m.rc.length⟩ := by
  have : m.ct = 0 := by omega
  simp [Mk.out, this]
theorem out_1 {m : Mk} (h : ¬ (m.ct : Int) = 0) : m.out = ⟨m.fl, [], m.bg, m.ct + 1, m.wd⟩ := by
  have : ¬ m.ct = 0 := by omega
  simp [Mk.out, this]
theorem bd_mono {n k : Nat} {m : Mk} (h : bdM n m) (hk : n ≤ k) : bdM k m := ⟨by have := h.1; omega, by have := h.2.1; omega, by have := h.2.2.1; omega, by have := h.2.2.2; omega⟩
theorem gather_bd {n : Nat} {l : Lm} {m m' : Mk} {e : Ev} (h : bdM n m) (hg : gather l m e = .ok m') : bdM (n + 2) m' := by
  unfold gather at hg
  split at hg
  · simp at hg
  · rename_i m1 h1
    have g1 : m1.fl.length ≤ n ∧ m1.rc.length ≤ n ∧ m1.bg ≤ n + 1 ∧ m1.ct ≤ n := by
      obtain ⟨b1, b2, b3, b4⟩ := h
      unfold gBegin at h1
      split at h1
      · split at h1
        · simp at h1
        · injection h1 with h1; subst h1; exact ⟨b1, b2, by simp; omega, b4⟩
      · injection h1 with h1; subst h1; exact ⟨b1, b2, by omega, b4⟩
    split at hg
    · simp at hg
    · rename_i m2 h2
      have g2 : m2.fl.length ≤ n + 1 ∧ m2.rc.length ≤ n ∧ m2.bg ≤ n + 1 ∧ m2.ct ≤ n := by
        obtain ⟨b1, b2, b3, b4⟩ := g1
        unfold gAdd at h2
        split at h2
        · split at h2
          · simp at h2
          · injection h2 with h2; subst h2; exact ⟨by simp; omega, b2, b3, b4⟩
        · injection h2 with h2; subst h2; exact ⟨by omega, b2, b3, b4⟩
      split at hg
      · simp at hg
      · rename_i m3 h3
        have g3 : m3.fl.length ≤ n + 1 ∧ m3.rc.length ≤ n + 1 ∧ m3.bg ≤ n + 1 ∧ m3.ct ≤ n := by
          obtain ⟨b1, b2, b3, b4⟩ := g2
          unfold gField at h3
          split at h3
          · split at h3
            · simp at h3
            · split at h3
              · simp at h3
              · injection h3 with h3; subst h3; exact ⟨by simp [Mk.put], by simp [Mk.put]; omega, b3, b4⟩
          · injection h3 with h3; subst h3; exact ⟨b1, by omega, b3, b4⟩
        obtain ⟨b1, b2, b3, b4⟩ := g3
        unfold gLine at hg
        split at hg
        · split at hg
          · simp at hg
          · injection hg with hg; subst hg; exact ⟨by simp [Mk.put], by simp [Mk.put]; omega, by simp only [Mk.put]; omega, by simp only [Mk.put]; omega⟩
        · injection hg with hg; subst hg; exact ⟨by omega, by omega, by omega, by omega⟩
theorem take_bd {n : Nat} {l : Lm} {m : Mk} {e : Ev} {x : Mk × Option (List Str)} (h : bdM n m) (hg : takeM l m e = .ok x) : bdM (n + 3) x.1 := by
  unfold takeM at hg
  split at hg
  · simp at hg
  · rename_i m' h1
    obtain ⟨b1, b2, b3, b4⟩ := gather_bd h h1
    split at hg
    · injection hg with hg; subst hg; exact ⟨by simp only [Mk.out]; omega, by simp [Mk.out], by simp only [Mk.out]; omega, by simp only [Mk.out]; omega⟩
    · injection hg with hg; subst hg; exact ⟨by simp only; omega, by simp only; omega, by simp only; omega, by simp only; omega⟩
def c115 : MC := (.seq (.reg [qq 3 (.raw (.box 210 (.tmp 1)) 0), qq 4 (.mv (.const (.slice none 0 0))), qq 5 (.mv (kb false)), qq 6 (.mv (ki 0))]) (.seq (.seq (.reg [qm 8 0, qq 9 (.nck (.tmp 8)), qq 10 (.fad 9 (.tmp 9)), qq 11 (.ld none (.tmp 10)), qq 12 (.bin .eql (.tmp 11) (ki 0))]) (.cond (.tmp 12) (.reg [qm 13 0, qm 14 0, qq 15 (.ld (.some 6) (.tmp 3)), qq 16 (.call 138 [(.tmp 14), (.tmp 15)]), qq 17 (.nck (.tmp 13)), qq 18 (.fad 9 (.tmp 17)), qn (.st 1 (.tmp 18) (.tmp 16))]) .skip)) (.seq (.seq (.reg [qm 19 0, qq 20 (.nck (.tmp 19)), qq 21 (.fad 9 (.tmp 20)), qq 22 (.ld none (.tmp 21)), qq 23 (.bin .neq (.tmp 22) (ki 0))]) (.cond (.tmp 23) (.seq (.drg [qm 24 0, qq 25 (.nck (.tmp 24)), qq 26 (.fad 9 (.tmp 25)), qq 27 (.ld none (.tmp 26)), qq 4 (.mv (.const (.slice none 0 0))), qq 5 (.mv (kb false)), qm 6 27] none) .ret) .skip)) (.seq (.seq (.reg [qq 28 (.fad 4 (.tmp 3)), qq 29 (.ld none (.tmp 28)), qq 30 (.un .not (.tmp 29))]) (.cond (.tmp 30) (.seq (.reg [qq 4 (.mv (.const (.slice none 0 0))), qq 5 (.mv (kb false)), qq 6 (.mv (ki 0))]) .ret) .skip)) (.seq (.reg [qm 31 0, qq 32 (.nck (.tmp 31)), qq 33 (.fad 5 (.tmp 32)), qq 34 (.ld none (.tmp 33)), qm 7 34]) (.seq (.reg [qm 35 0, qq 36 (.nck (.tmp 35)), qq 37 (.fad 5 (.tmp 36)), qn (.st 1 (.tmp 37) (.const (.slice none 0 0)))]) (.seq (.seq (.reg [qm 38 0, qq 39 (.nck (.tmp 38)), qq 40 (.fad 7 (.tmp 39)), qq 41 (.ld none (.tmp 40)), qq 42 (.bin .eql (.tmp 41) (ki 0))]) (.cond (.tmp 42) (.reg [qm 43 0, qm 44 7, qq 45 (.len (.tmp 44)), qq 46 (.nck (.tmp 43)), qq 47 (.fad 8 (.tmp 46)), qn (.st 1 (.tmp 47) (.tmp 45))]) .skip)) (.seq (.reg [qm 48 0, qq 49 (.nck (.tmp 48)), qq 50 (.fad 7 (.tmp 49)), qq 51 (.ld none (.tmp 50)), qq 52 (.bin .add (.tmp 51) (ki 1)), qq 53 (.nck (.tmp 48)), qq 54 (.fad 7 (.tmp 53)), qn (.st 1 (.tmp 54) (.tmp 52))]) (.seq (.reg [qm 55 7, qm 4 55, qq 5 (.mv (kb true)), qq 6 (.mv (ki 0))]) .ret)))))))))
theorem k115 : conv Tryz.prog 56 (Tryz.f115.body.getD .skip) = c115 := by kernel_rfl
theorem in115 {a0 a1 : Value} {w : World} {R : Value → World → Prop} (h : G Tryz.prog Tryz.f115 56 [.c c115] R (frL 0 [a0, a1]) w) : Ret Tryz.prog 115 #[a0, a1] w R := G.enter (args := [a0, a1]) Tryz.func115 (c := Tryz.f115.body.getD .skip) (by kernel_rfl) (by kernel_rfl) (by simp) k115 h
set_option maxHeartbeats 1000000 in
theorem mtake_spec {g : Nat} {l : Lm} {m : Mk} {e : Ev} {M : List Chk} {w w0 : World} (hM : MkS w0 w g l m M) (hb : bdM 900000000 m) (he : okEv e) :
    Ret Tryz.prog 115 #[.pointer (some ⟨g, 0, none⟩), (.agg #[.bool e.b, .bool e.a, .bool e.f, .bool e.l, .bool e.r, U e.c.toNat])] w fun res w' => TRes w0 w' g l M res (takeM l m e) := by
  refine in115 ?_
  obtain ⟨fv, rv, hS⟩ := hM
  unfold takeM
  obtain ⟨eb, ea, ef, el, er, ec⟩ := e
  cases hg : gather l m ⟨eb, ea, ef, el, er, ec⟩ with
  | error k =>
    have hk := gather_err hg
    repeat' (first | ((with_reducible apply G.a); exact rfl) | refine G.reg fun K hK => ?_ | (with_reducible (refine hK _ _ ?_); clear hK K) | (with_reducible (refine hK _ ?_); clear hK K; intro wd hxd; have hS := Sep.xx hxd) | (have hk := hK; clear hk; simp (disch := first | exact dis | fail) only [push_cast, ↓reduceIte, Nat.reduceAdd, Nat.reduceLeDiff, Nat.reduceEqDiff, Nat.reduceLT, Int.reduceToNat, fct]) | (((with_reducible refine gBox ?_); refine zbox ?_); intro gb wb hS) | ((with_reducible refine gSt ?_); refine zs2 ?_; intro wb hS) | ((with_reducible (show CallK _ 138 _ _ _ _ _)); have hx := MkS.of (l := l) (m := m) hS (by repeat constructor) (by repeat constructor) (by repeat constructor); refine zco 138 (gather_spec (e := ⟨eb, ea, ef, el, _, ec⟩) hx hb he) ?_; clear hx; intro vb wb hG; rw [hg] at hG; obtain ⟨rfl, m2, fv2, rv2, hS⟩ := hG) | refine G.drg mixed fun K hK => ?_ | (refine G.cn ?_ ?_ <;> intro hc <;> first | (with_reducible exact False.elim hc) | (exfalso; omega) | skip))
    all_goals
      (first | refine G.r1 ?_ | refine G.r2 ?_ | refine G.r3 ?_ | refine G.r0 ?_ | refine G.d0 ?_); (try simp (disch := first | exact dis | fail) only [push_cast, ↓reduceIte, Nat.reduceAdd, Nat.reduceLeDiff, Nat.reduceEqDiff, Nat.reduceLT, Int.reduceToNat, fct])
      exact ⟨rfl, Sep.sub hS (by repeat first | exact Sub.rfl' | (refine Sub.c (by repeat constructor) ?_) | refine Sub.skip ?_)⟩
  | ok m2 =>
    obtain ⟨b1, b2, b3, b4⟩ := gather_bd hb hg
    cases er
    · simp only [Bool.false_eq_true, if_false]
      repeat' (first | ((with_reducible apply G.a); exact rfl) | refine G.reg fun K hK => ?_ | (with_reducible (refine hK _ _ ?_); clear hK K) | (with_reducible (refine hK _ ?_); clear hK K; intro wd hxd; have hS := Sep.xx hxd) | (have hk := hK; clear hk; simp (disch := first | exact dis | fail) only [push_cast, ↓reduceIte, Nat.reduceAdd, Nat.reduceLeDiff, Nat.reduceEqDiff, Nat.reduceLT, Int.reduceToNat, fct]) | (((with_reducible refine gBox ?_); refine zbox ?_); intro gb wb hS) | ((with_reducible refine gSt ?_); refine zs2 ?_; intro wb hS) | ((with_reducible (show CallK _ 138 _ _ _ _ _)); have hx := MkS.of (l := l) (m := m) hS (by repeat constructor) (by repeat constructor) (by repeat constructor); refine zco 138 (gather_spec (e := ⟨eb, ea, ef, el, _, ec⟩) hx hb he) ?_; clear hx; intro vb wb hG; rw [hg] at hG; obtain ⟨rfl, fv2, rv2, hS⟩ := hG) | refine G.drg mixed fun K hK => ?_ | (refine G.cn ?_ ?_ <;> intro hc <;> first | (with_reducible exact False.elim hc) | (exfalso; omega) | skip))
      all_goals
        (first | refine G.r1 ?_ | refine G.r2 ?_ | refine G.r3 ?_ | refine G.r0 ?_ | refine G.d0 ?_); (try simp (disch := first | exact dis | fail) only [push_cast, ↓reduceIte, Nat.reduceAdd, Nat.reduceLeDiff, Nat.reduceEqDiff, Nat.reduceLT, Int.reduceToNat, fct])
        exact ⟨rfl, _, _, Sep.sub hS (by repeat first | exact Sub.rfl' | (refine Sub.c (by repeat constructor) ?_) | refine Sub.skip ?_)⟩
    · simp only [if_true]
      repeat' (first | ((with_reducible apply G.a); exact rfl) | refine G.reg fun K hK => ?_ | (with_reducible (refine hK _ _ ?_); clear hK K) | (with_reducible (refine hK _ ?_); clear hK K; intro wd hxd; have hS := Sep.xx hxd) | (have hk := hK; clear hk; simp (disch := first | exact dis | fail) only [push_cast, ↓reduceIte, Nat.reduceAdd, Nat.reduceLeDiff, Nat.reduceEqDiff, Nat.reduceLT, Int.reduceToNat, fct]) | (((with_reducible refine gBox ?_); refine zbox ?_); intro gb wb hS) | ((with_reducible refine gSt ?_); refine zs2 ?_; intro wb hS) | ((with_reducible (show CallK _ 138 _ _ _ _ _)); have hx := MkS.of (l := l) (m := m) hS (by repeat constructor) (by repeat constructor) (by repeat constructor); refine zco 138 (gather_spec (e := ⟨eb, ea, ef, el, _, ec⟩) hx hb he) ?_; clear hx; intro vb wb hG; rw [hg] at hG; obtain ⟨rfl, fv2, rv2, hS⟩ := hG) | refine G.drg mixed fun K hK => ?_ | (refine G.cn ?_ ?_ <;> intro hc <;> first | (with_reducible exact False.elim hc) | (exfalso; omega) | skip))
      all_goals
        (first | refine G.r1 ?_ | refine G.r2 ?_ | refine G.r3 ?_ | refine G.r0 ?_ | refine G.d0 ?_); (try simp (disch := first | exact dis | fail) only [push_cast, ↓reduceIte, Nat.reduceAdd, Nat.reduceLeDiff, Nat.reduceEqDiff, Nat.reduceLT, Int.reduceToNat, fct])
        have hS := hS.nil 9 eS
        first | rw [out_0 (m := m2) (by assumption)] | rw [out_1 (m := m2) (by assumption)]
        exact ⟨_, rfl, fv2, .slice none 0 0, Sep.sub hS (by repeat first | exact Sub.rfl' | (refine Sub.c (by repeat constructor) ?_) | refine Sub.skip ?_)⟩
end Go.Proofs.YtdikpaochhacmaaGreatDoor
namespace Go.Proofs.YtdikpaochhacmaaGreatDoor
set_option linter.unusedSimpArgs false
set_option linter.unusedVariables false
attribute [local irreducible] SemK UnitK StK AlcK BslK CallK CallV Instr.box Builtin.append_ Instr.makeSlice Instr.makeMap Instr.lookup Instr.mapUpdate Instr.sliceAt convert
open Go.RowKit
def WkS (w0 w : World) (gw g : Nat) (d : Dl) (l : Lm) (q st : Int) (m : Mk) (M : List Chk) : Prop := ∃ fv rv, Sep w0 w (boxC gw 180 [U d.dl, U d.q, I d.e, .pointer (some ⟨g, 0, none⟩), I q, I st] :: boxC g 207 [I l.F, I l.N, I l.R, .bool l.U, fv, rv, I m.bg, I m.ct, I m.wd, I 0] :: accC fv 5 eU m.fl :: accC rv 9 eS m.rc :: M)
def stepW (d : Dl) (l : Lm) (q st : Int) (m : Mk) (b : UInt8) : Except Int (Int × Int × Mk × Option (List Str)) :=
  if (stepM q b.toNat).2 = false then .error 3 else match stepR d l st m b with
    | .error k => .error k
    | .ok x => .ok ((stepM q b.toNat).1, x)
theorem wrun_cons (d : Dl) (l : Lm) (q st : Int) (m : Mk) (p : Nat) (b : UInt8) (t : Str) : wrun d l q st m p (b :: t) = match stepW d l q st m b with
    | .error k => ⟨[], k, p⟩
    | .ok x => (wrun d l x.1 x.2.1 x.2.2.1 (p + 1) t).pre (oneR x.2.2.2 p) := by
  unfold stepW
  rw [wrun]
  cases (stepM q b.toNat).2
  · rfl
  · simp only [Bool.true_eq_false, if_false]
    cases stepR d l st m b <;> rfl
def endW (l : Lm) (q st : Int) (m : Mk) : Except Int (Option (List Str)) := if q ≠ 0 then .error 12 else endR l st m
theorem wrun_nil (d : Dl) (l : Lm) (q st : Int) (m : Mk) (p : Nat) : wrun d l q st m p [] = match endW l q st m with
    | .error k => ⟨[], k, p⟩
    | .ok r => ⟨oneR r p, 0, 0⟩ := by
  unfold endW
  rw [wrun]
  split
  · rfl
  · cases endR l st m <;> rfl
theorem stepW_err {d : Dl} {l : Lm} {q st : Int} {m : Mk} {b : UInt8} {k : Int} (h : stepW d l q st m b = .error k) : 0 < k := by
  unfold stepW at h
  split at h
  · injection h with h; omega
  · split at h
    · rename_i h2; injection h with h; subst h; exact step_err h2
    · simp at h
theorem endW_err {l : Lm} {q st : Int} {m : Mk} {k : Int} (h : endW l q st m = .error k) : 0 < k := by
  unfold endW at h
  split at h
  · injection h with h; omega
  · exact end_err h
theorem stepW_bd {d : Dl} {l : Lm} {q st : Int} {m : Mk} {b : UInt8} {n : Nat} {x : Int × Int × Mk × Option (List Str)} (hb : bdM n m) (h : stepW d l q st m b = .ok x) : bdM (n + 3) x.2.2.1 := by
  unfold stepW at h
  split at h
  · simp at h
  · split at h
    · simp at h
    · rename_i y h2
      injection h with h; subst h
      unfold stepR at h2
      split at h2
      · simp at h2
      · split at h2
        · simp at h2
        · rename_i z h3
          injection h2 with h2; subst h2
          exact take_bd hb h3
def SRes (w0 w' : World) (gw g : Nat) (d : Dl) (l : Lm) (M : List Chk) (res : Value) : Except Int (Int × Int × Mk × Option (List Str)) → Prop
  | .error k => res = (.tuple #[.slice none 0 0, .bool false, I k]) ∧ Sep w0 w' M
  | .ok (q', st', m', none) => res = (.tuple #[.slice none 0 0, .bool false, I 0]) ∧ WkS w0 w' gw g d l q' st' m' M
  | .ok (q', st', m', some r) => ∃ rv, res = .tuple #[rv, .bool true, I 0] ∧ WkS w0 w' gw g d l q' st' m' (accC rv 9 eS r :: M)
def c86 : MC := (.seq (.reg [qq 4 (.mv (.const (.slice none 0 0))), qq 5 (.mv (kb false)), qq 6 (.mv (ki 0))]) (.seq (.reg [qm 13 0, qq 14 (.nck (.tmp 13)), qq 15 (.fad 4 (.tmp 14)), qq 16 (.ld none (.tmp 15)), qm 17 1, qq 18 (.call 112 [(.tmp 16), (.tmp 17)]), qm 12 18, qq 19 (.ext 0 (.tmp 12)), qq 20 (.ext 1 (.tmp 12)), qm 7 19, qm 8 20]) (.seq (.seq (.reg [qm 21 8, qq 22 (.un .not (.tmp 21))]) (.cond (.tmp 22) (.seq (.reg [qq 4 (.mv (.const (.slice none 0 0))), qq 5 (.mv (kb false)), qq 6 (.mv (ki 3))]) .ret) .skip)) (.seq (.reg [qm 23 0, qm 24 7, qq 25 (.nck (.tmp 23)), qq 26 (.fad 4 (.tmp 25)), qn (.st 1 (.tmp 26) (.tmp 24))]) (.seq (.drg [qm 28 0, qq 29 (.nck (.tmp 28)), qq 30 (.fad 0 (.tmp 29)), qq 31 (.ld (.some 3) (.tmp 30)), qm 32 0, qq 33 (.nck (.tmp 32)), qq 34 (.fad 5 (.tmp 33)), qq 35 (.ld none (.tmp 34)), qm 36 1, qq 37 (.call 114 [(.tmp 31), (.tmp 35), (.tmp 36)]), qm 27 37, qq 38 (.ext 0 (.tmp 27)), qq 39 (.ext 1 (.tmp 27)), qq 40 (.ext 2 (.tmp 27)), qq 9 (.alc 210 [(.bool false), (.bool false), (.bool false), (.bool false), (.bool false), (.int .u8 0)]), qn (.st 6 (.tmp 9) (.tmp 38)), qm 10 39, qm 11 40] (.some (.br [qm 28 0, qq 29 (.nck (.tmp 28)), qq 30 (.fad 0 (.tmp 29)), qm 32 0, qq 33 (.nck (.tmp 32)), qq 34 (.fad 5 (.tmp 33)), qm 36 1] (.br [qq 31 (.ld (.some 3) (.tmp 30))] (.br [qq 35 (.ld none (.tmp 34))] (.leaf [qq 37 (.call 114 [(.tmp 31), (.tmp 35), (.tmp 36)]), qm 27 37, qq 38 (.ext 0 (.tmp 27)), qq 39 (.ext 1 (.tmp 27)), qq 40 (.ext 2 (.tmp 27)), qq 9 (.alc 210 [(.bool false), (.bool false), (.bool false), (.bool false), (.bool false), (.int .u8 0)]), qn (.st 6 (.tmp 9) (.tmp 38)), qm 10 39, qm 11 40]) (.leaf [qq 9 (.alc 210 [(.bool false), (.bool false), (.bool false), (.bool false), (.bool false), (.int .u8 0)]), qq 37 (.call 114 [(.tmp 31), (.tmp 35), (.tmp 36)]), qm 27 37, qq 38 (.ext 0 (.tmp 27)), qq 39 (.ext 1 (.tmp 27)), qq 40 (.ext 2 (.tmp 27)), qn (.st 6 (.tmp 9) (.tmp 38)), qm 10 39, qm 11 40])) (.leaf [qq 9 (.alc 210 [(.bool false), (.bool false), (.bool false), (.bool false), (.bool false), (.int .u8 0)]), qq 35 (.ld none (.tmp 34)), qq 37 (.call 114 [(.tmp 31), (.tmp 35), (.tmp 36)]), qm 27 37, qq 38 (.ext 0 (.tmp 27)), qq 39 (.ext 1 (.tmp 27)), qq 40 (.ext 2 (.tmp 27)), qn (.st 6 (.tmp 9) (.tmp 38)), qm 10 39, qm 11 40])) (.br [] (.br [qq 35 (.ld none (.tmp 34))] (.br [qq 31 (.ld (.some 3) (.tmp 30))] (.leaf [qq 37 (.call 114 [(.tmp 31), (.tmp 35), (.tmp 36)]), qm 27 37, qq 38 (.ext 0 (.tmp 27)), qq 39 (.ext 1 (.tmp 27)), qq 40 (.ext 2 (.tmp 27)), qq 9 (.alc 210 [(.bool false), (.bool false), (.bool false), (.bool false), (.bool false), (.int .u8 0)]), qn (.st 6 (.tmp 9) (.tmp 38)), qm 10 39, qm 11 40]) (.leaf [qq 9 (.alc 210 [(.bool false), (.bool false), (.bool false), (.bool false), (.bool false), (.int .u8 0)]), qq 37 (.call 114 [(.tmp 31), (.tmp 35), (.tmp 36)]), qm 27 37, qq 38 (.ext 0 (.tmp 27)), qq 39 (.ext 1 (.tmp 27)), qq 40 (.ext 2 (.tmp 27)), qn (.st 6 (.tmp 9) (.tmp 38)), qm 10 39, qm 11 40])) (.leaf [qq 9 (.alc 210 [(.bool false), (.bool false), (.bool false), (.bool false), (.bool false), (.int .u8 0)]), qq 31 (.ld (.some 3) (.tmp 30)), qq 37 (.call 114 [(.tmp 31), (.tmp 35), (.tmp 36)]), qm 27 37, qq 38 (.ext 0 (.tmp 27)), qq 39 (.ext 1 (.tmp 27)), qq 40 (.ext 2 (.tmp 27)), qn (.st 6 (.tmp 9) (.tmp 38)), qm 10 39, qm 11 40])) (.br [qq 9 (.alc 210 [(.bool false), (.bool false), (.bool false), (.bool false), (.bool false), (.int .u8 0)])] (.leaf [qq 31 (.ld (.some 3) (.tmp 30)), qq 35 (.ld none (.tmp 34)), qq 37 (.call 114 [(.tmp 31), (.tmp 35), (.tmp 36)]), qm 27 37, qq 38 (.ext 0 (.tmp 27)), qq 39 (.ext 1 (.tmp 27)), qq 40 (.ext 2 (.tmp 27)), qn (.st 6 (.tmp 9) (.tmp 38)), qm 10 39, qm 11 40]) (.leaf [qq 35 (.ld none (.tmp 34)), qq 31 (.ld (.some 3) (.tmp 30)), qq 37 (.call 114 [(.tmp 31), (.tmp 35), (.tmp 36)]), qm 27 37, qq 38 (.ext 0 (.tmp 27)), qq 39 (.ext 1 (.tmp 27)), qq 40 (.ext 2 (.tmp 27)), qn (.st 6 (.tmp 9) (.tmp 38)), qm 10 39, qm 11 40])))))) (.seq (.seq (.reg [qm 41 11, qq 42 (.bin .neq (.tmp 41) (ki 0))]) (.cond (.tmp 42) (.seq (.reg [qm 43 11, qq 4 (.mv (.const (.slice none 0 0))), qq 5 (.mv (kb false)), qm 6 43]) .ret) .skip)) (.seq (.reg [qm 44 0, qm 45 10, qq 46 (.nck (.tmp 44)), qq 47 (.fad 5 (.tmp 46)), qn (.st 1 (.tmp 47) (.tmp 45))]) (.seq (.drg [qm 48 0, qq 49 (.nck (.tmp 48)), qq 50 (.fad 3 (.tmp 49)), qq 51 (.ld none (.tmp 50)), qq 52 (.ld (.some 6) (.tmp 9)), qq 53 (.call 115 [(.tmp 51), (.tmp 52)]), qq 54 (.ext 0 (.tmp 53)), qq 55 (.ext 1 (.tmp 53)), qq 56 (.ext 2 (.tmp 53)), qm 4 54, qm 5 55, qm 6 56] (.some (.br [qm 48 0, qq 49 (.nck (.tmp 48)), qq 50 (.fad 3 (.tmp 49))] (.leaf [qq 51 (.ld none (.tmp 50)), qq 52 (.ld (.some 6) (.tmp 9)), qq 53 (.call 115 [(.tmp 51), (.tmp 52)]), qq 54 (.ext 0 (.tmp 53)), qq 55 (.ext 1 (.tmp 53)), qq 56 (.ext 2 (.tmp 53)), qm 4 54, qm 5 55, qm 6 56]) (.leaf [qq 52 (.ld (.some 6) (.tmp 9)), qq 51 (.ld none (.tmp 50)), qq 53 (.call 115 [(.tmp 51), (.tmp 52)]), qq 54 (.ext 0 (.tmp 53)), qq 55 (.ext 1 (.tmp 53)), qq 56 (.ext 2 (.tmp 53)), qm 4 54, qm 5 55, qm 6 56])))) .ret))))))))
theorem k86 : conv Tryz.prog 57 (Tryz.f86.body.getD .skip) = c86 := by kernel_rfl
theorem in86 {a0 a1 : Value} {w : World} {R : Value → World → Prop} (h : G Tryz.prog Tryz.f86 57 [.c c86] R (frL 0 [a0, a1]) w) : Ret Tryz.prog 86 #[a0, a1] w R := G.enter (args := [a0, a1]) Tryz.func86 (c := Tryz.f86.body.getD .skip) (by kernel_rfl) (by kernel_rfl) (by simp) k86 h
set_option maxHeartbeats 1000000 in
theorem wstep_spec {gw g : Nat} {d : Dl} {l : Lm} {q st : Int} {m : Mk} {b : UInt8} {M : List Chk} {w w0 : World} (hM : WkS w0 w gw g d l q st m M) (hb : bdM 900000000 m) :
    Ret Tryz.prog 86 #[.pointer (some ⟨gw, 0, none⟩), U b.toNat] w fun res w' => SRes w0 w' gw g d l M res (stepW d l q st m b) := by
  refine in86 ?_
  obtain ⟨fv, rv, hS⟩ := hM
  unfold stepW
  cases hu : (stepM q b.toNat).2
  · rw [if_pos rfl]
    (have fct := @hu; repeat' (first | ((with_reducible apply G.a); exact rfl) | refine G.reg fun K hK => ?_ | (with_reducible (refine hK _ _ ?_); clear hK K) | (with_reducible (refine hK _ ?_); clear hK K; intro wd hxd; have hS := Sep.xx hxd) | ((first | have hk := hK | have hk := hK2); clear hk; simp (disch := first | exact dis | fail) only [push_cast, ↓reduceIte, Nat.reduceAdd, Nat.reduceLeDiff, Nat.reduceEqDiff, Nat.reduceLT, Int.reduceToNat, fct]) | (refine zalc ?_; intro gb wb hS) | ((with_reducible refine gSt ?_); refine zs2 ?_; intro wb hS) | (refine zcp 112 (step_spec _ _ _) ?_; intro wb hS) | (refine G.drt mixed fun K hK wd hxd => ?_; have hS := Sep.xx hxd) | with_reducible refine OT_leaf ?_ | (with_reducible (refine hK2 _ ?_); clear hK2 K2; intro wd hxd; have hS := Sep.xx hxd) | with_reducible refine OT_br fun K2 hK2 => ?_ | (refine hK2 _ _ ?_ ?_ <;> clear hK2 K2) | refine G.drg mixed fun K hK => ?_ | (refine G.cn ?_ ?_ <;> intro hc <;> first | (with_reducible exact False.elim hc) | (exfalso; omega) | skip))) <;> (try clear fct)
    all_goals
      (first | refine G.r1 ?_ | refine G.r2 ?_ | refine G.r3 ?_ | refine G.r0 ?_ | refine G.d0 ?_); (try simp (disch := first | exact dis | fail) only [push_cast, ↓reduceIte, Nat.reduceAdd, Nat.reduceLeDiff, Nat.reduceEqDiff, Nat.reduceLT, Int.reduceToNat, fct])
      exact ⟨rfl, Sep.sub hS (by repeat first | exact Sub.rfl' | (refine Sub.c (by repeat constructor) ?_) | refine Sub.skip ?_)⟩
  · rw [if_neg (by simp)]
    unfold stepR
    by_cases hs : (scM d st b).2.2 = 0
    · rw [if_neg (by omega)]
      cases ht : takeM l m (scM d st b).1 with
      | error k =>
        have hk := take_err ht
        (have fct := (And.intro @hu @hs); repeat' (first | ((with_reducible apply G.a); exact rfl) | refine G.reg fun K hK => ?_ | (with_reducible (refine hK _ _ ?_); clear hK K) | (with_reducible (refine hK _ ?_); clear hK K; intro wd hxd; have hS := Sep.xx hxd) | ((first | have hk := hK | have hk := hK2); clear hk; simp (disch := first | exact dis | fail) only [push_cast, ↓reduceIte, Nat.reduceAdd, Nat.reduceLeDiff, Nat.reduceEqDiff, Nat.reduceLT, Int.reduceToNat, fct]) | (refine zalc ?_; intro gb wb hS) | ((with_reducible refine gSt ?_); refine zs2 ?_; intro wb hS) | (refine zcp 112 (step_spec _ _ _) ?_; intro wb hS) | (refine zcp 114 (scStep_spec d st b _) ?_; intro wb hS) | ((with_reducible (show CallK _ 115 _ _ _ _ _)); have hx := MkS.of (l := l) (m := m) hS (by repeat constructor) (by repeat constructor) (by repeat constructor); refine zco 115 (mtake_spec hx hb (sc_ev d st b)) ?_; clear hx; intro vb wb hG; rw [ht] at hG; obtain ⟨rfl, hS⟩ := hG) | (refine G.drt mixed fun K hK wd hxd => ?_; have hS := Sep.xx hxd) | with_reducible refine OT_leaf ?_ | (with_reducible (refine hK2 _ ?_); clear hK2 K2; intro wd hxd; have hS := Sep.xx hxd) | with_reducible refine OT_br fun K2 hK2 => ?_ | (refine hK2 _ _ ?_ ?_ <;> clear hK2 K2) | refine G.drg mixed fun K hK => ?_ | (refine G.cn ?_ ?_ <;> intro hc <;> first | (with_reducible exact False.elim hc) | (exfalso; omega) | skip))) <;> (try clear fct)
        all_goals
          (first | refine G.r1 ?_ | refine G.r2 ?_ | refine G.r3 ?_ | refine G.r0 ?_ | refine G.d0 ?_); (try simp (disch := first | exact dis | fail) only [push_cast, ↓reduceIte, Nat.reduceAdd, Nat.reduceLeDiff, Nat.reduceEqDiff, Nat.reduceLT, Int.reduceToNat, fct])
          exact ⟨rfl, Sep.sub hS (by repeat first | exact Sub.rfl' | (refine Sub.c (by repeat constructor) ?_) | refine Sub.skip ?_)⟩
      | ok x =>
        obtain ⟨m2, o⟩ := x
        cases o with
        | none =>
          (have fct := (And.intro @hu @hs); repeat' (first | ((with_reducible apply G.a); exact rfl) | refine G.reg fun K hK => ?_ | (with_reducible (refine hK _ _ ?_); clear hK K) | (with_reducible (refine hK _ ?_); clear hK K; intro wd hxd; have hS := Sep.xx hxd) | ((first | have hk := hK | have hk := hK2); clear hk; simp (disch := first | exact dis | fail) only [push_cast, ↓reduceIte, Nat.reduceAdd, Nat.reduceLeDiff, Nat.reduceEqDiff, Nat.reduceLT, Int.reduceToNat, fct]) | (refine zalc ?_; intro gb wb hS) | ((with_reducible refine gSt ?_); refine zs2 ?_; intro wb hS) | (refine zcp 112 (step_spec _ _ _) ?_; intro wb hS) | (refine zcp 114 (scStep_spec d st b _) ?_; intro wb hS) | ((with_reducible (show CallK _ 115 _ _ _ _ _)); have hx := MkS.of (l := l) (m := m) hS (by repeat constructor) (by repeat constructor) (by repeat constructor); refine zco 115 (mtake_spec hx hb (sc_ev d st b)) ?_; clear hx; intro vb wb hG; rw [ht] at hG; obtain ⟨rfl, fv2, rv2, hS⟩ := hG) | (refine G.drt mixed fun K hK wd hxd => ?_; have hS := Sep.xx hxd) | with_reducible refine OT_leaf ?_ | (with_reducible (refine hK2 _ ?_); clear hK2 K2; intro wd hxd; have hS := Sep.xx hxd) | with_reducible refine OT_br fun K2 hK2 => ?_ | (refine hK2 _ _ ?_ ?_ <;> clear hK2 K2) | refine G.drg mixed fun K hK => ?_ | (refine G.cn ?_ ?_ <;> intro hc <;> first | (with_reducible exact False.elim hc) | (exfalso; omega) | skip))) <;> (try clear fct)
          all_goals
            (first | refine G.r1 ?_ | refine G.r2 ?_ | refine G.r3 ?_ | refine G.r0 ?_ | refine G.d0 ?_); (try simp (disch := first | exact dis | fail) only [push_cast, ↓reduceIte, Nat.reduceAdd, Nat.reduceLeDiff, Nat.reduceEqDiff, Nat.reduceLT, Int.reduceToNat, fct])
            exact ⟨rfl, fv2, rv2, Sep.sub hS (by repeat first | exact Sub.rfl' | (refine Sub.c (by repeat constructor) ?_) | refine Sub.skip ?_)⟩
        | some r =>
          (have fct := (And.intro @hu @hs); repeat' (first | ((with_reducible apply G.a); exact rfl) | refine G.reg fun K hK => ?_ | (with_reducible (refine hK _ _ ?_); clear hK K) | (with_reducible (refine hK _ ?_); clear hK K; intro wd hxd; have hS := Sep.xx hxd) | ((first | have hk := hK | have hk := hK2); clear hk; simp (disch := first | exact dis | fail) only [push_cast, ↓reduceIte, Nat.reduceAdd, Nat.reduceLeDiff, Nat.reduceEqDiff, Nat.reduceLT, Int.reduceToNat, fct]) | (refine zalc ?_; intro gb wb hS) | ((with_reducible refine gSt ?_); refine zs2 ?_; intro wb hS) | (refine zcp 112 (step_spec _ _ _) ?_; intro wb hS) | (refine zcp 114 (scStep_spec d st b _) ?_; intro wb hS) | ((with_reducible (show CallK _ 115 _ _ _ _ _)); have hx := MkS.of (l := l) (m := m) hS (by repeat constructor) (by repeat constructor) (by repeat constructor); refine zco 115 (mtake_spec hx hb (sc_ev d st b)) ?_; clear hx; intro vb wb hG; rw [ht] at hG; obtain ⟨rv3, rfl, fv2, rv2, hS⟩ := hG) | (refine G.drt mixed fun K hK wd hxd => ?_; have hS := Sep.xx hxd) | with_reducible refine OT_leaf ?_ | (with_reducible (refine hK2 _ ?_); clear hK2 K2; intro wd hxd; have hS := Sep.xx hxd) | with_reducible refine OT_br fun K2 hK2 => ?_ | (refine hK2 _ _ ?_ ?_ <;> clear hK2 K2) | refine G.drg mixed fun K hK => ?_ | (refine G.cn ?_ ?_ <;> intro hc <;> first | (with_reducible exact False.elim hc) | (exfalso; omega) | skip))) <;> (try clear fct)
          all_goals
            (first | refine G.r1 ?_ | refine G.r2 ?_ | refine G.r3 ?_ | refine G.r0 ?_ | refine G.d0 ?_); (try simp (disch := first | exact dis | fail) only [push_cast, ↓reduceIte, Nat.reduceAdd, Nat.reduceLeDiff, Nat.reduceEqDiff, Nat.reduceLT, Int.reduceToNat, fct])
            exact ⟨rv3, rfl, fv2, rv2, Sep.sub hS (by repeat first | exact Sub.rfl' | (refine Sub.c (by repeat constructor) ?_) | refine Sub.skip ?_)⟩
    · rw [if_pos hs]
      (have fct := @hu; repeat' (first | ((with_reducible apply G.a); exact rfl) | refine G.reg fun K hK => ?_ | (with_reducible (refine hK _ _ ?_); clear hK K) | (with_reducible (refine hK _ ?_); clear hK K; intro wd hxd; have hS := Sep.xx hxd) | ((first | have hk := hK | have hk := hK2); clear hk; simp (disch := first | exact dis | fail) only [push_cast, ↓reduceIte, Nat.reduceAdd, Nat.reduceLeDiff, Nat.reduceEqDiff, Nat.reduceLT, Int.reduceToNat, fct]) | (refine zalc ?_; intro gb wb hS) | ((with_reducible refine gSt ?_); refine zs2 ?_; intro wb hS) | (refine zcp 112 (step_spec _ _ _) ?_; intro wb hS) | (refine zcp 114 (scStep_spec d st b _) ?_; intro wb hS) | (refine G.drt mixed fun K hK wd hxd => ?_; have hS := Sep.xx hxd) | with_reducible refine OT_leaf ?_ | (with_reducible (refine hK2 _ ?_); clear hK2 K2; intro wd hxd; have hS := Sep.xx hxd) | with_reducible refine OT_br fun K2 hK2 => ?_ | (refine hK2 _ _ ?_ ?_ <;> clear hK2 K2) | refine G.drg mixed fun K hK => ?_ | (refine G.cn ?_ ?_ <;> intro hc <;> first | (with_reducible exact False.elim hc) | (exfalso; omega) | skip))) <;> (try clear fct)
      all_goals
        (first | refine G.r1 ?_ | refine G.r2 ?_ | refine G.r3 ?_ | refine G.r0 ?_ | refine G.d0 ?_); (try simp (disch := first | exact dis | fail) only [push_cast, ↓reduceIte, Nat.reduceAdd, Nat.reduceLeDiff, Nat.reduceEqDiff, Nat.reduceLT, Int.reduceToNat, fct])
        exact ⟨rfl, Sep.sub hS (by repeat first | exact Sub.rfl' | (refine Sub.c (by repeat constructor) ?_) | refine Sub.skip ?_)⟩
def NRes (w0 w' : World) (M : List Chk) (res : Value) : Except Int (Option (List Str)) → Prop
  | .error k => res = (.tuple #[.slice none 0 0, .bool false, I k]) ∧ Sep w0 w' M
  | .ok none => res = (.tuple #[.slice none 0 0, .bool false, I 0]) ∧ Sep w0 w' M
  | .ok (some r) => ∃ rv, res = .tuple #[rv, .bool true, I 0] ∧ Sep w0 w' (accC rv 9 eS r :: M)
def c87 : MC := (.seq (.reg [qq 2 (.mv (.const (.slice none 0 0))), qq 3 (.mv (kb false)), qq 4 (.mv (ki 0))]) (.seq (.seq (.reg [qm 7 0, qq 8 (.nck (.tmp 7)), qq 9 (.fad 4 (.tmp 8)), qq 10 (.ld none (.tmp 9)), qq 11 (.bin .neq (.tmp 10) (ki 0))]) (.cond (.tmp 11) (.seq (.reg [qq 2 (.mv (.const (.slice none 0 0))), qq 3 (.mv (kb false)), qq 4 (.mv (ki 12))]) .ret) .skip)) (.seq (.reg [qm 13 0, qq 14 (.nck (.tmp 13)), qq 15 (.fad 5 (.tmp 14)), qq 16 (.ld none (.tmp 15)), qq 17 (.call 116 [(.tmp 16)]), qm 12 17, qq 18 (.ext 0 (.tmp 12)), qq 19 (.ext 1 (.tmp 12)), qq 5 (.alc 210 [(.bool false), (.bool false), (.bool false), (.bool false), (.bool false), (.int .u8 0)]), qn (.st 6 (.tmp 5) (.tmp 18)), qm 6 19]) (.seq (.seq (.reg [qm 20 6, qq 21 (.bin .neq (.tmp 20) (ki 0))]) (.cond (.tmp 21) (.seq (.reg [qm 22 6, qq 2 (.mv (.const (.slice none 0 0))), qq 3 (.mv (kb false)), qm 4 22]) .ret) .skip)) (.seq (.drg [qm 23 0, qq 24 (.nck (.tmp 23)), qq 25 (.fad 3 (.tmp 24)), qq 26 (.ld none (.tmp 25)), qq 27 (.ld (.some 6) (.tmp 5)), qq 28 (.call 115 [(.tmp 26), (.tmp 27)]), qq 29 (.ext 0 (.tmp 28)), qq 30 (.ext 1 (.tmp 28)), qq 31 (.ext 2 (.tmp 28)), qm 2 29, qm 3 30, qm 4 31] (.some (.br [qm 23 0, qq 24 (.nck (.tmp 23)), qq 25 (.fad 3 (.tmp 24))] (.leaf [qq 26 (.ld none (.tmp 25)), qq 27 (.ld (.some 6) (.tmp 5)), qq 28 (.call 115 [(.tmp 26), (.tmp 27)]), qq 29 (.ext 0 (.tmp 28)), qq 30 (.ext 1 (.tmp 28)), qq 31 (.ext 2 (.tmp 28)), qm 2 29, qm 3 30, qm 4 31]) (.leaf [qq 27 (.ld (.some 6) (.tmp 5)), qq 26 (.ld none (.tmp 25)), qq 28 (.call 115 [(.tmp 26), (.tmp 27)]), qq 29 (.ext 0 (.tmp 28)), qq 30 (.ext 1 (.tmp 28)), qq 31 (.ext 2 (.tmp 28)), qm 2 29, qm 3 30, qm 4 31])))) .ret)))))
theorem k87 : conv Tryz.prog 32 (Tryz.f87.body.getD .skip) = c87 := by kernel_rfl
theorem in87 {a0 : Value} {w : World} {R : Value → World → Prop} (h : G Tryz.prog Tryz.f87 32 [.c c87] R (frL 0 [a0]) w) : Ret Tryz.prog 87 #[a0] w R := G.enter (args := [a0]) Tryz.func87 (c := Tryz.f87.body.getD .skip) (by kernel_rfl) (by kernel_rfl) (by simp) k87 h
set_option maxHeartbeats 1000000 in
theorem wend_spec {gw g : Nat} {d : Dl} {l : Lm} {q st : Int} {m : Mk} {M : List Chk} {w w0 : World} (hM : WkS w0 w gw g d l q st m M) (hb : bdM 900000000 m) :
    Ret Tryz.prog 87 #[.pointer (some ⟨gw, 0, none⟩)] w fun res w' => NRes w0 w' M res (endW l q st m) := by
  refine in87 ?_
  obtain ⟨fv, rv, hS⟩ := hM
  unfold endW
  by_cases hq : q = 0
  · rw [if_neg (by omega)]
    unfold endR
    by_cases hs : (closeM st).2 = 0
    · rw [if_neg (by omega)]
      cases ht : takeM l m (closeM st).1 with
      | error k =>
        have hk := take_err ht
        (have fct := (And.intro @hq @hs); repeat' (first | ((with_reducible apply G.a); exact rfl) | refine G.reg fun K hK => ?_ | (with_reducible (refine hK _ _ ?_); clear hK K) | (with_reducible (refine hK _ ?_); clear hK K; intro wd hxd; have hS := Sep.xx hxd) | ((first | have hk := hK | have hk := hK2); clear hk; simp (disch := first | exact dis | fail) only [push_cast, ↓reduceIte, Nat.reduceAdd, Nat.reduceLeDiff, Nat.reduceEqDiff, Nat.reduceLT, Int.reduceToNat, fct]) | (refine zalc ?_; intro gb wb hS) | ((with_reducible refine gSt ?_); refine zs2 ?_; intro wb hS) | (refine zcp 116 (scClose_spec st _) ?_; intro wb hS) | ((with_reducible (show CallK _ 115 _ _ _ _ _)); have hx := MkS.of (l := l) (m := m) hS (by repeat constructor) (by repeat constructor) (by repeat constructor); refine zco 115 (mtake_spec hx hb (close_ev st)) ?_; clear hx; intro vb wb hG; rw [ht] at hG; obtain ⟨rfl, hS⟩ := hG) | (refine G.drt mixed fun K hK wd hxd => ?_; have hS := Sep.xx hxd) | with_reducible refine OT_leaf ?_ | (with_reducible (refine hK2 _ ?_); clear hK2 K2; intro wd hxd; have hS := Sep.xx hxd) | with_reducible refine OT_br fun K2 hK2 => ?_ | (refine hK2 _ _ ?_ ?_ <;> clear hK2 K2) | refine G.drg mixed fun K hK => ?_ | (refine G.cn ?_ ?_ <;> intro hc <;> first | (with_reducible exact False.elim hc) | (exfalso; omega) | skip))) <;> (try clear fct)
        all_goals
          (first | refine G.r1 ?_ | refine G.r2 ?_ | refine G.r3 ?_ | refine G.r0 ?_ | refine G.d0 ?_); (try simp (disch := first | exact dis | fail) only [push_cast, ↓reduceIte, Nat.reduceAdd, Nat.reduceLeDiff, Nat.reduceEqDiff, Nat.reduceLT, Int.reduceToNat, fct])
          exact ⟨rfl, Sep.sub hS (by repeat first | exact Sub.rfl' | (refine Sub.c (by repeat constructor) ?_) | refine Sub.skip ?_)⟩
      | ok x =>
        obtain ⟨m2, o⟩ := x
        cases o with
        | none =>
          (have fct := (And.intro @hq @hs); repeat' (first | ((with_reducible apply G.a); exact rfl) | refine G.reg fun K hK => ?_ | (with_reducible (refine hK _ _ ?_); clear hK K) | (with_reducible (refine hK _ ?_); clear hK K; intro wd hxd; have hS := Sep.xx hxd) | ((first | have hk := hK | have hk := hK2); clear hk; simp (disch := first | exact dis | fail) only [push_cast, ↓reduceIte, Nat.reduceAdd, Nat.reduceLeDiff, Nat.reduceEqDiff, Nat.reduceLT, Int.reduceToNat, fct]) | (refine zalc ?_; intro gb wb hS) | ((with_reducible refine gSt ?_); refine zs2 ?_; intro wb hS) | (refine zcp 116 (scClose_spec st _) ?_; intro wb hS) | ((with_reducible (show CallK _ 115 _ _ _ _ _)); have hx := MkS.of (l := l) (m := m) hS (by repeat constructor) (by repeat constructor) (by repeat constructor); refine zco 115 (mtake_spec hx hb (close_ev st)) ?_; clear hx; intro vb wb hG; rw [ht] at hG; obtain ⟨rfl, fv2, rv2, hS⟩ := hG) | (refine G.drt mixed fun K hK wd hxd => ?_; have hS := Sep.xx hxd) | with_reducible refine OT_leaf ?_ | (with_reducible (refine hK2 _ ?_); clear hK2 K2; intro wd hxd; have hS := Sep.xx hxd) | with_reducible refine OT_br fun K2 hK2 => ?_ | (refine hK2 _ _ ?_ ?_ <;> clear hK2 K2) | refine G.drg mixed fun K hK => ?_ | (refine G.cn ?_ ?_ <;> intro hc <;> first | (with_reducible exact False.elim hc) | (exfalso; omega) | skip))) <;> (try clear fct)
          all_goals
            (first | refine G.r1 ?_ | refine G.r2 ?_ | refine G.r3 ?_ | refine G.r0 ?_ | refine G.d0 ?_); (try simp (disch := first | exact dis | fail) only [push_cast, ↓reduceIte, Nat.reduceAdd, Nat.reduceLeDiff, Nat.reduceEqDiff, Nat.reduceLT, Int.reduceToNat, fct])
            exact ⟨rfl, Sep.sub hS (by repeat first | exact Sub.rfl' | (refine Sub.c (by repeat constructor) ?_) | refine Sub.skip ?_)⟩
        | some r =>
          (have fct := (And.intro @hq @hs); repeat' (first | ((with_reducible apply G.a); exact rfl) | refine G.reg fun K hK => ?_ | (with_reducible (refine hK _ _ ?_); clear hK K) | (with_reducible (refine hK _ ?_); clear hK K; intro wd hxd; have hS := Sep.xx hxd) | ((first | have hk := hK | have hk := hK2); clear hk; simp (disch := first | exact dis | fail) only [push_cast, ↓reduceIte, Nat.reduceAdd, Nat.reduceLeDiff, Nat.reduceEqDiff, Nat.reduceLT, Int.reduceToNat, fct]) | (refine zalc ?_; intro gb wb hS) | ((with_reducible refine gSt ?_); refine zs2 ?_; intro wb hS) | (refine zcp 116 (scClose_spec st _) ?_; intro wb hS) | ((with_reducible (show CallK _ 115 _ _ _ _ _)); have hx := MkS.of (l := l) (m := m) hS (by repeat constructor) (by repeat constructor) (by repeat constructor); refine zco 115 (mtake_spec hx hb (close_ev st)) ?_; clear hx; intro vb wb hG; rw [ht] at hG; obtain ⟨rv3, rfl, fv2, rv2, hS⟩ := hG) | (refine G.drt mixed fun K hK wd hxd => ?_; have hS := Sep.xx hxd) | with_reducible refine OT_leaf ?_ | (with_reducible (refine hK2 _ ?_); clear hK2 K2; intro wd hxd; have hS := Sep.xx hxd) | with_reducible refine OT_br fun K2 hK2 => ?_ | (refine hK2 _ _ ?_ ?_ <;> clear hK2 K2) | refine G.drg mixed fun K hK => ?_ | (refine G.cn ?_ ?_ <;> intro hc <;> first | (with_reducible exact False.elim hc) | (exfalso; omega) | skip))) <;> (try clear fct)
          all_goals
            (first | refine G.r1 ?_ | refine G.r2 ?_ | refine G.r3 ?_ | refine G.r0 ?_ | refine G.d0 ?_); (try simp (disch := first | exact dis | fail) only [push_cast, ↓reduceIte, Nat.reduceAdd, Nat.reduceLeDiff, Nat.reduceEqDiff, Nat.reduceLT, Int.reduceToNat, fct])
            exact ⟨rv3, rfl, Sep.sub hS (by repeat first | exact Sub.rfl' | (refine Sub.c (by repeat constructor) ?_) | refine Sub.skip ?_)⟩
    · rw [if_pos hs]
      (have fct := @hq; repeat' (first | ((with_reducible apply G.a); exact rfl) | refine G.reg fun K hK => ?_ | (with_reducible (refine hK _ _ ?_); clear hK K) | (with_reducible (refine hK _ ?_); clear hK K; intro wd hxd; have hS := Sep.xx hxd) | ((first | have hk := hK | have hk := hK2); clear hk; simp (disch := first | exact dis | fail) only [push_cast, ↓reduceIte, Nat.reduceAdd, Nat.reduceLeDiff, Nat.reduceEqDiff, Nat.reduceLT, Int.reduceToNat, fct]) | (refine zalc ?_; intro gb wb hS) | ((with_reducible refine gSt ?_); refine zs2 ?_; intro wb hS) | (refine zcp 116 (scClose_spec st _) ?_; intro wb hS) | (refine G.drt mixed fun K hK wd hxd => ?_; have hS := Sep.xx hxd) | with_reducible refine OT_leaf ?_ | (with_reducible (refine hK2 _ ?_); clear hK2 K2; intro wd hxd; have hS := Sep.xx hxd) | with_reducible refine OT_br fun K2 hK2 => ?_ | (refine hK2 _ _ ?_ ?_ <;> clear hK2 K2) | refine G.drg mixed fun K hK => ?_ | (refine G.cn ?_ ?_ <;> intro hc <;> first | (with_reducible exact False.elim hc) | (exfalso; omega) | skip))) <;> (try clear fct)
      all_goals
        (first | refine G.r1 ?_ | refine G.r2 ?_ | refine G.r3 ?_ | refine G.r0 ?_ | refine G.d0 ?_); (try simp (disch := first | exact dis | fail) only [push_cast, ↓reduceIte, Nat.reduceAdd, Nat.reduceLeDiff, Nat.reduceEqDiff, Nat.reduceLT, Int.reduceToNat, fct])
        exact ⟨rfl, Sep.sub hS (by repeat first | exact Sub.rfl' | (refine Sub.c (by repeat constructor) ?_) | refine Sub.skip ?_)⟩
  · rw [if_pos hq]
    repeat' (first | ((with_reducible apply G.a); exact rfl) | refine G.reg fun K hK => ?_ | (with_reducible (refine hK _ _ ?_); clear hK K) | (with_reducible (refine hK _ ?_); clear hK K; intro wd hxd; have hS := Sep.xx hxd) | ((first | have hk := hK | have hk := hK2); clear hk; simp (disch := first | exact dis | fail) only [push_cast, ↓reduceIte, Nat.reduceAdd, Nat.reduceLeDiff, Nat.reduceEqDiff, Nat.reduceLT, Int.reduceToNat, fct]) | (refine zalc ?_; intro gb wb hS) | ((with_reducible refine gSt ?_); refine zs2 ?_; intro wb hS) | (refine G.drt mixed fun K hK wd hxd => ?_; have hS := Sep.xx hxd) | with_reducible refine OT_leaf ?_ | (with_reducible (refine hK2 _ ?_); clear hK2 K2; intro wd hxd; have hS := Sep.xx hxd) | with_reducible refine OT_br fun K2 hK2 => ?_ | (refine hK2 _ _ ?_ ?_ <;> clear hK2 K2) | refine G.drg mixed fun K hK => ?_ | (refine G.cn ?_ ?_ <;> intro hc <;> first | (with_reducible exact False.elim hc) | (exfalso; omega) | skip))
    all_goals
      (first | refine G.r1 ?_ | refine G.r2 ?_ | refine G.r3 ?_ | refine G.r0 ?_ | refine G.d0 ?_); (try simp (disch := first | exact dis | fail) only [push_cast, ↓reduceIte, Nat.reduceAdd, Nat.reduceLeDiff, Nat.reduceEqDiff, Nat.reduceLT, Int.reduceToNat, fct])
      exact ⟨rfl, Sep.sub hS (by repeat first | exact Sub.rfl' | (refine Sub.c (by repeat constructor) ?_) | refine Sub.skip ?_)⟩
end Go.Proofs.YtdikpaochhacmaaGreatDoor
