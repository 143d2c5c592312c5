/- Texts of the proof, joined. -/
import Derived.Test.YtdikpaochhacmaaGreatDoorrV06
import Derived.Test.YtdikpaochhacmaaGreatDoorrQ06
namespace Go.Proofs.YtdikpaochhacmaaGreatDoor
set_option linter.unusedSimpArgs false
set_option linter.unusedVariables false
attribute [local irreducible] SemK UnitK StK AlcK BslK CallK CallV Instr.box Builtin.append_ Instr.makeSlice Instr.makeMap Instr.lookup Instr.mapUpdate Instr.sliceAt convert
open Go.RowKit
def RdrS (w0 w : World) (g : Nat) (d : Dl) (l : Lm) (s : Str) (p : Int) (m : Mk) (acc : List (List Str × Nat)) (k a : Int) (M : List Chk) : Prop :=
  ∃ rv Rv Ev vs, Sep w0 w (boxC g 192 [I d.dl, I d.q, I d.e, I l.F, I l.N, I l.R, I (if l.U = true then 1 else 0), S s, I p, I m.bg, rv, Rv, Ev, I k, I a] :: accC rv 9 eS m.rc :: accC Rv 49 eV vs :: frzC eS vs (List.map Prod.fst acc) :: accC Ev 3 eI (List.map (fun x => (x.2 : Int)) acc) :: M)
theorem RdrS.of {w0 w : World} {g : Nat} {d : Dl} {l : Lm} {s : Str} {p : Int} {m : Mk} {acc : List (List Str × Nat)} {k a : Int} {rv Rv Ev : Value} {vs : List Value} {xss : List (List Str)} {es : List Int} {L L1 L2 L3 L4 M : List Chk} (hS : Sep w0 w L)
    (h1 : Ex (boxC g 192 [I d.dl, I d.q, I d.e, I l.F, I l.N, I l.R, I (if l.U = true then 1 else 0), S s, I p, I m.bg, rv, Rv, Ev, I k, I a]) L L1) (h2 : Ex (accC rv 9 eS m.rc) L1 L2) (h3 : Ex (accC Rv 49 eV vs) L2 L3) (h4 : Ex (frzC eS vs xss) L3 L4) (h5 : Ex (accC Ev 3 eI es) L4 M) (e1 : List.map Prod.fst acc = xss) (e2 : List.map (fun x => (x.2 : Int)) acc = es) : RdrS w0 w g d l s p m acc k a M := by
  subst e1; subst e2
  exact ⟨rv, Rv, Ev, vs, Sep.sub hS (.c h1 (.c h2 (.c h3 (.c h4 (.c h5 Sub.rfl')))))⟩
def atB (s : Str) (p : Nat) (c : Int) : Bool := decide ((p : Int) < s.length) && (((s.getD p 0).toNat : Int) == c)
theorem atB_t {s : Str} {p : Nat} {c : Int} (h : atB s p c = true) : (p : Int) < s.length ∧ ((s.getD p 0).toNat : Int) = c := by simpa [atB] using h
theorem atB_f {s : Str} {p : Nat} {c : Int} (h : atB s p c = false) (hp : (p : Int) < s.length) : ¬ ((s.getD p 0).toNat : Int) = c := by
  intro e
  unfold atB at h
  rw [decide_eq_true hp, e] at h
  simp at h
def pos8 (w : World) (g : Nat) : Nat := toN ((w.cell? ⟨g, 8, none⟩).getD undef)
section
variable {g : Nat} {d : Dl} {l : Lm} {s : Str} {p : Nat} {bg k a : Int} {rv Rv Ev : Value} {M : List Chk} {w w0 : World}
theorem pos8_of (hS : Sep w0 w (boxC g 192 [I d.dl, I d.q, I d.e, I l.F, I l.N, I l.R, I (if l.U = true then 1 else 0), S s, I p, I bg, rv, Rv, Ev, I k, I a] :: M)) : pos8 w g = p := by
  unfold pos8
  rw [(hS.blk .h).cell]
  rfl
def c91 : MC := (.seq (.reg [qq 4 (.mv (kb false))]) (.seq (.drg [qm 5 0, qq 6 (.nck (.tmp 5)), qq 7 (.fad 8 (.tmp 6)), qq 8 (.ld none (.tmp 7)), qm 9 0, qq 10 (.nck (.tmp 9)), qq 11 (.fad 7 (.tmp 10)), qq 12 (.ld none (.tmp 11)), qq 13 (.lenS (.tmp 12)), qq 14 (.bin .lss (.tmp 8) (.tmp 13)), qm 15 14, qmt 15 16 0, qt 15 17 (.nck (.tmp 16)), qt 15 18 (.fad 7 (.tmp 17)), qt 15 19 (.ld none (.tmp 18)), qmt 15 20 0, qt 15 21 (.nck (.tmp 20)), qt 15 22 (.fad 8 (.tmp 21)), qt 15 23 (.ld none (.tmp 22)), qt 15 24 (.idxS (.tmp 19) (.tmp 23)), qt 15 25 (.cvi .i64 (.tmp 24)), qmt 15 26 1, qt 15 27 (.bin .eql (.tmp 25) (.tmp 26)), qq 28 (.pick (.tmp 15) (.tmp 27) (kb false)), qm 4 28] none) .ret))
theorem k91 : conv Tryz.prog 29 (Tryz.f91.body.getD .skip) = c91 := by kernel_rfl
theorem in91 {a0 a1 : Value} {w : World} {R : Value → World → Prop} (h : G Tryz.prog Tryz.f91 29 [.c c91] R (frL 0 [a0, a1]) w) : Ret Tryz.prog 91 #[a0, a1] w R := G.enter (args := [a0, a1]) Tryz.func91 (c := Tryz.f91.body.getD .skip) (by kernel_rfl) (by kernel_rfl) (by simp) k91 h
theorem ris_spec (h : Blk w g 192 [I d.dl, I d.q, I d.e, I l.F, I l.N, I l.R, I (if l.U = true then 1 else 0), S s, I p, I bg, rv, Rv, Ev, I k, I a].toArray) (c : Int) :
    Pu Tryz.prog 91 #[.pointer (some ⟨g, 0, none⟩), I c] w (.bool (atB s p c)) := by
  refine in91 ?_
  have hS := Sep.start w
  unfold atB
  have hb := (s.getD p 0).toNat_lt
  by_cases h1 : (p : Int) < s.length
  all_goals
    (have fct := @h1; repeat' (first | ((with_reducible apply G.a); exact rfl) | refine G.reg fun K hK => ?_ | (with_reducible (refine hK _ _ ?_); clear hK K) | (with_reducible (refine hK _ ?_); clear hK K; intro wd hxd; have hS := Sep.xx hxd) | (have hk := hK; clear hk; simp (disch := first | exact dis | fail) only [push_cast, ↓reduceIte, Nat.reduceAdd, Nat.reduceLeDiff, Nat.reduceEqDiff, Nat.reduceLT, Int.reduceToNat, fct]) | ((first | refine brO_n ?_ ?_ | refine brQ_n ?_ ?_) <;> intro hb hc <;> first | (with_reducible exact False.elim hc) | (exfalso; omega) | (simp only [hb]; clear hb)) | refine G.drg mixed fun K hK => ?_)) <;> (try clear fct)
    all_goals
      (have fct := @h1; (first | refine G.r1 ?_ | refine G.r2 ?_ | refine G.r3 ?_ | refine G.r0 ?_ | refine G.d0 ?_); (try simp (disch := first | exact dis | fail) only [push_cast, ↓reduceIte, Nat.reduceAdd, Nat.reduceLeDiff, Nat.reduceEqDiff, Nat.reduceLT, Int.reduceToNat, fct]); (try clear fct))
      (first | exact Sep.xt (by assumption) | exact ⟨rfl, Sep.xt (by assumption)⟩)
def c118 : MC := (.seq (.reg [qq 6 (.mv (kb false))]) (.seq (.seq (.reg [qm 7 0, qq 8 (.nck (.tmp 7)), qq 9 (.fad 11 (.tmp 8)), qq 10 (.fad 2 (.tmp 9)), qq 11 (.ld none (.tmp 10)), qq 12 (.bin .eql (.tmp 11) (ki 0))]) (.cond (.tmp 12) (.reg [qm 13 0, qm 14 0, qm 15 1, qm 16 2, qq 17 (.nck (.tmp 13)), qq 18 (.fad 11 (.tmp 17)), qq 19 (.fad 2 (.tmp 18)), qn (.st 1 (.tmp 19) (.tmp 15)), qq 20 (.nck (.tmp 14)), qq 21 (.fad 11 (.tmp 20)), qq 22 (.fad 3 (.tmp 21)), qn (.st 1 (.tmp 22) (.tmp 16))]) .skip)) (.seq (.reg [qq 6 (.mv (kb false))]) .ret)))
theorem k118 : conv Tryz.prog 23 (Tryz.f118.body.getD .skip) = c118 := by kernel_rfl
theorem in118 {a0 a1 a2 : Value} {w : World} {R : Value → World → Prop} (h : G Tryz.prog Tryz.f118 23 [.c c118] R (frL 0 [a0, a1, a2]) w) : Ret Tryz.prog 118 #[a0, a1, a2] w R := G.enter (args := [a0, a1, a2]) Tryz.func118 (c := Tryz.f118.body.getD .skip) (by kernel_rfl) (by kernel_rfl) (by simp) k118 h
theorem rwrong_spec (hS : Sep w0 w (boxC g 192 [I d.dl, I d.q, I d.e, I l.F, I l.N, I l.R, I (if l.U = true then 1 else 0), S s, I p, I bg, rv, Rv, Ev, I 0, I a] :: M)) (kk aa : Int) :
    Ret Tryz.prog 118 #[.pointer (some ⟨g, 0, none⟩), I kk, I aa] w fun res w' => res = .bool false ∧ Sep w0 w' (boxC g 192 [I d.dl, I d.q, I d.e, I l.F, I l.N, I l.R, I (if l.U = true then 1 else 0), S s, I p, I bg, rv, Rv, Ev, I kk, I aa] :: M) := by
  refine in118 ?_
  repeat' (first | ((with_reducible apply G.a); exact rfl) | refine G.reg fun K hK => ?_ | (with_reducible (refine hK _ _ ?_); clear hK K) | (have hk := hK; clear hk; simp (disch := first | exact dis | fail) only [push_cast, ↓reduceIte, Nat.reduceAdd, Nat.reduceLeDiff, Nat.reduceEqDiff, Nat.reduceLT, Int.reduceToNat, fct]) | ((with_reducible refine gSt ?_); refine zs2 ?_; intro wb hS) | (refine G.cn ?_ ?_ <;> intro hc <;> first | (with_reducible exact False.elim hc) | (exfalso; omega) | skip))
  all_goals
    (first | refine G.r1 ?_ | refine G.r2 ?_ | refine G.r3 ?_ | refine G.r0 ?_ | refine G.d0 ?_); (try simp (disch := first | exact dis | fail) only [push_cast, ↓reduceIte, Nat.reduceAdd, Nat.reduceLeDiff, Nat.reduceEqDiff, Nat.reduceLT, Int.reduceToNat, fct])
    first | exact hS | exact ⟨rfl, hS⟩
def c92 : MC := (.seq (.reg [qq 2 (.mv (ki 0))]) (.seq (.seq (.reg [qm 3 0, qq 4 (.call 91 [(.tmp 3), (ki 10)])]) (.cond (.tmp 4) (.seq (.seq (.reg [qm 5 0, qq 6 (.nck (.tmp 5)), qq 7 (.fad 0 (.tmp 6)), qq 8 (.fad 2 (.tmp 7)), qq 9 (.ld none (.tmp 8)), qq 10 (.bin .eql (.tmp 9) (ki 2))]) (.cond (.tmp 10) (.seq (.reg [qm 11 0, qm 12 0, qq 13 (.nck (.tmp 12)), qq 14 (.fad 8 (.tmp 13)), qq 15 (.ld none (.tmp 14)), qq 16 (.call 118 [(.tmp 11), (ki 6), (.tmp 15)])]) (.seq (.reg [qq 2 (.mv (ki 0))]) .ret)) .skip)) (.seq (.reg [qq 2 (.mv (ki 1))]) .ret)) .skip)) (.seq (.seq (.reg [qm 17 0, qq 18 (.nck (.tmp 17)), qq 19 (.fad 0 (.tmp 18)), qq 20 (.fad 2 (.tmp 19)), qq 21 (.ld none (.tmp 20)), qq 22 (.bin .eql (.tmp 21) (ki 1))]) (.cond (.tmp 22) (.seq (.reg [qm 23 0, qm 24 0, qq 25 (.nck (.tmp 24)), qq 26 (.fad 8 (.tmp 25)), qq 27 (.ld none (.tmp 26)), qq 28 (.call 118 [(.tmp 23), (ki 6), (.tmp 27)])]) (.seq (.reg [qq 2 (.mv (ki 0))]) .ret)) .skip)) (.seq (.reg [qq 2 (.mv (ki 2))]) .ret))))
theorem k92 : conv Tryz.prog 29 (Tryz.f92.body.getD .skip) = c92 := by kernel_rfl
theorem in92 {a0 : Value} {w : World} {R : Value → World → Prop} (h : G Tryz.prog Tryz.f92 29 [.c c92] R (frL 0 [a0]) w) : Ret Tryz.prog 92 #[a0] w R := G.enter (args := [a0]) Tryz.func92 (c := Tryz.f92.body.getD .skip) (by kernel_rfl) (by kernel_rfl) (by simp) k92 h
theorem rfeed_ok (hS : Sep w0 w (boxC g 192 [I d.dl, I d.q, I d.e, I l.F, I l.N, I l.R, I (if l.U = true then 1 else 0), S s, I p, I bg, rv, Rv, Ev, I 0, I a] :: M)) (he : if atB s p 10 = true then ¬ d.e = 2 else ¬ d.e = 1) :
    Ret Tryz.prog 92 #[.pointer (some ⟨g, 0, none⟩)] w fun res w' => res = I (if atB s p 10 = true then 1 else 2) ∧ Sep w0 w' (boxC g 192 [I d.dl, I d.q, I d.e, I l.F, I l.N, I l.R, I (if l.U = true then 1 else 0), S s, I p, I bg, rv, Rv, Ev, I 0, I a] :: M) := by
  refine in92 ?_
  cases h : atB s p 10 <;> rw [h] at he <;> simp only [Bool.false_eq_true, if_false, if_true] at he ⊢
  all_goals
    (have fct := @h; repeat' (first | ((with_reducible apply G.a); exact rfl) | refine G.reg fun K hK => ?_ | (with_reducible (refine hK _ _ ?_); clear hK K) | (have hk := hK; clear hk; simp (disch := first | exact dis | fail) only [push_cast, ↓reduceIte, Nat.reduceAdd, Nat.reduceLeDiff, Nat.reduceEqDiff, Nat.reduceLT, Int.reduceToNat, fct]) | ((with_reducible (show CallK _ 91 _ _ _ _ _)); refine zcp 91 (ris_spec (Sep.blk hS .h) _) ?_; intro wb hS) | ((with_reducible (show CallK _ 118 _ _ _ _ _)); refine zco 118 (rwrong_spec hS _ _) ?_; rintro vb wb ⟨rfl, hS⟩) | (refine G.cn ?_ ?_ <;> intro hc <;> first | (with_reducible exact False.elim hc) | (exfalso; omega) | skip))) <;> (try clear fct)
    all_goals
      (first | refine G.r1 ?_ | refine G.r2 ?_ | refine G.r3 ?_ | refine G.r0 ?_ | refine G.d0 ?_); (try simp (disch := first | exact dis | fail) only [push_cast, ↓reduceIte, Nat.reduceAdd, Nat.reduceLeDiff, Nat.reduceEqDiff, Nat.reduceLT, Int.reduceToNat, fct])
      first | exact hS | exact ⟨rfl, hS⟩
theorem rfeed_no (hS : Sep w0 w (boxC g 192 [I d.dl, I d.q, I d.e, I l.F, I l.N, I l.R, I (if l.U = true then 1 else 0), S s, I p, I bg, rv, Rv, Ev, I 0, I a] :: M)) (he : if atB s p 10 = true then d.e = 2 else d.e = 1) :
    Ret Tryz.prog 92 #[.pointer (some ⟨g, 0, none⟩)] w fun res w' => res = I 0 ∧ Sep w0 w' (boxC g 192 [I d.dl, I d.q, I d.e, I l.F, I l.N, I l.R, I (if l.U = true then 1 else 0), S s, I p, I bg, rv, Rv, Ev, I 6, I p] :: M) := by
  refine in92 ?_
  cases h : atB s p 10 <;> rw [h] at he <;> simp only [Bool.false_eq_true, if_false, if_true] at he
  all_goals
    (have fct := @h; repeat' (first | ((with_reducible apply G.a); exact rfl) | refine G.reg fun K hK => ?_ | (with_reducible (refine hK _ _ ?_); clear hK K) | (have hk := hK; clear hk; simp (disch := first | exact dis | fail) only [push_cast, ↓reduceIte, Nat.reduceAdd, Nat.reduceLeDiff, Nat.reduceEqDiff, Nat.reduceLT, Int.reduceToNat, fct]) | ((with_reducible (show CallK _ 91 _ _ _ _ _)); refine zcp 91 (ris_spec (Sep.blk hS .h) _) ?_; intro wb hS) | ((with_reducible (show CallK _ 118 _ _ _ _ _)); refine zco 118 (rwrong_spec hS _ _) ?_; rintro vb wb ⟨rfl, hS⟩) | (refine G.cn ?_ ?_ <;> intro hc <;> first | (with_reducible exact False.elim hc) | (exfalso; omega) | skip))) <;> (try clear fct)
    all_goals
      (first | refine G.r1 ?_ | refine G.r2 ?_ | refine G.r3 ?_ | refine G.r0 ?_ | refine G.d0 ?_); (try simp (disch := first | exact dis | fail) only [push_cast, ↓reduceIte, Nat.reduceAdd, Nat.reduceLeDiff, Nat.reduceEqDiff, Nat.reduceLT, Int.reduceToNat, fct])
      first | exact hS | exact ⟨rfl, hS⟩
def c93 : MC := (.seq (.reg [qq 2 (.mv (kb false))]) (.seq (.seq (.drg [qm 3 0, qq 4 (.nck (.tmp 3)), qq 5 (.fad 8 (.tmp 4)), qq 6 (.ld none (.tmp 5)), qq 7 (.bin .add (.tmp 6) (ki 1)), qm 8 0, qq 9 (.nck (.tmp 8)), qq 10 (.fad 7 (.tmp 9)), qq 11 (.ld none (.tmp 10)), qq 12 (.lenS (.tmp 11)), qq 13 (.bin .geq (.tmp 7) (.tmp 12)), qm 14 13, qmf 14 15 0, qf 14 16 (.nck (.tmp 15)), qf 14 17 (.fad 7 (.tmp 16)), qf 14 18 (.ld none (.tmp 17)), qmf 14 19 0, qf 14 20 (.nck (.tmp 19)), qf 14 21 (.fad 8 (.tmp 20)), qf 14 22 (.ld none (.tmp 21)), qf 14 23 (.bin .add (.tmp 22) (ki 1)), qf 14 24 (.idxS (.tmp 18) (.tmp 23)), qf 14 25 (.bin .neq (.tmp 24) (.const (.int .u8 10))), qq 26 (.pick (.tmp 14) (kb true) (.tmp 25))] none) (.cond (.tmp 26) (.seq (.reg [qm 27 0, qm 28 0, qq 29 (.nck (.tmp 28)), qq 30 (.fad 8 (.tmp 29)), qq 31 (.ld none (.tmp 30)), qq 32 (.bin .add (.tmp 31) (ki 1)), qq 33 (.call 118 [(.tmp 27), (ki 6), (.tmp 32)]), qm 2 33]) .ret) .skip)) (.seq (.reg [qq 2 (.mv (kb true))]) .ret)))
theorem k93 : conv Tryz.prog 34 (Tryz.f93.body.getD .skip) = c93 := by kernel_rfl
theorem in93 {a0 : Value} {w : World} {R : Value → World → Prop} (h : G Tryz.prog Tryz.f93 34 [.c c93] R (frL 0 [a0]) w) : Ret Tryz.prog 93 #[a0] w R := G.enter (args := [a0]) Tryz.func93 (c := Tryz.f93.body.getD .skip) (by kernel_rfl) (by kernel_rfl) (by simp) k93 h
theorem rsecond_ok (hS : Sep w0 w (boxC g 192 [I d.dl, I d.q, I d.e, I l.F, I l.N, I l.R, I (if l.U = true then 1 else 0), S s, I p, I bg, rv, Rv, Ev, I 0, I a] :: M)) (hp : (p : Int) < 1000000) (h : atB s (p + 1) 10 = true) :
    Ret Tryz.prog 93 #[.pointer (some ⟨g, 0, none⟩)] w fun res w' => res = .bool true ∧ Sep w0 w' (boxC g 192 [I d.dl, I d.q, I d.e, I l.F, I l.N, I l.R, I (if l.U = true then 1 else 0), S s, I p, I bg, rv, Rv, Ev, I 0, I a] :: M) := by
  refine in93 ?_
  obtain ⟨h1, h2⟩ := atB_t h
  have hT : ((p : Int) + 1).toNat = p + 1 := by omega
  (have fct := (And.intro @hT @h2); repeat' (first | ((with_reducible apply G.a); exact rfl) | refine G.reg fun K hK => ?_ | (with_reducible (refine hK _ _ ?_); clear hK K) | (with_reducible (refine hK _ ?_); clear hK K; intro wd hxd; have hS := Sep.xx hxd) | (have hk := hK; clear hk; simp (disch := first | exact dis | fail) only [push_cast, ↓reduceIte, Nat.reduceAdd, Nat.reduceLeDiff, Nat.reduceEqDiff, Nat.reduceLT, Int.reduceToNat, fct]) | ((first | refine brO_n ?_ ?_ | refine brQ_n ?_ ?_) <;> intro hb hc <;> first | (with_reducible exact False.elim hc) | (exfalso; omega) | (simp only [hb]; clear hb)) | refine G.drg mixed fun K hK => ?_ | (refine G.cn ?_ ?_ <;> intro hc <;> first | (with_reducible exact False.elim hc) | (exfalso; omega) | skip))) <;> (try clear fct)
  all_goals
    (first | refine G.r1 ?_ | refine G.r2 ?_ | refine G.r3 ?_ | refine G.r0 ?_ | refine G.d0 ?_); (try simp (disch := first | exact dis | fail) only [push_cast, ↓reduceIte, Nat.reduceAdd, Nat.reduceLeDiff, Nat.reduceEqDiff, Nat.reduceLT, Int.reduceToNat, fct])
    first | exact hS | exact ⟨rfl, hS⟩
theorem rsecond_no (hS : Sep w0 w (boxC g 192 [I d.dl, I d.q, I d.e, I l.F, I l.N, I l.R, I (if l.U = true then 1 else 0), S s, I p, I bg, rv, Rv, Ev, I 0, I a] :: M)) (hp : (p : Int) < 1000000) (h : atB s (p + 1) 10 = false) :
    Ret Tryz.prog 93 #[.pointer (some ⟨g, 0, none⟩)] w fun res w' => res = .bool false ∧ Sep w0 w' (boxC g 192 [I d.dl, I d.q, I d.e, I l.F, I l.N, I l.R, I (if l.U = true then 1 else 0), S s, I p, I bg, rv, Rv, Ev, I 6, I (p + 1 : Int)] :: M) := by
  refine in93 ?_
  have hT : ((p : Int) + 1).toNat = p + 1 := by omega
  by_cases h1 : (p : Int) + 1 < s.length
  · have h2 := atB_f h (by omega)
    (have fct := @hT; repeat' (first | ((with_reducible apply G.a); exact rfl) | refine G.reg fun K hK => ?_ | (with_reducible (refine hK _ _ ?_); clear hK K) | (with_reducible (refine hK _ ?_); clear hK K; intro wd hxd; have hS := Sep.xx hxd) | (have hk := hK; clear hk; simp (disch := first | exact dis | fail) only [push_cast, ↓reduceIte, Nat.reduceAdd, Nat.reduceLeDiff, Nat.reduceEqDiff, Nat.reduceLT, Int.reduceToNat, fct]) | ((first | refine brO_n ?_ ?_ | refine brQ_n ?_ ?_) <;> intro hb hc <;> first | (with_reducible exact False.elim hc) | (exfalso; omega) | (simp only [hb]; clear hb)) | ((with_reducible (show CallK _ 118 _ _ _ _ _)); refine zco 118 (rwrong_spec hS _ _) ?_; rintro vb wb ⟨rfl, hS⟩) | refine G.drg mixed fun K hK => ?_ | (refine G.cn ?_ ?_ <;> intro hc <;> first | (with_reducible exact False.elim hc) | (exfalso; omega) | skip))) <;> (try clear fct)
    all_goals
      (first | refine G.r1 ?_ | refine G.r2 ?_ | refine G.r3 ?_ | refine G.r0 ?_ | refine G.d0 ?_); (try simp (disch := first | exact dis | fail) only [push_cast, ↓reduceIte, Nat.reduceAdd, Nat.reduceLeDiff, Nat.reduceEqDiff, Nat.reduceLT, Int.reduceToNat, fct])
      first | exact hS | exact ⟨rfl, hS⟩
  · (have fct := @hT; repeat' (first | ((with_reducible apply G.a); exact rfl) | refine G.reg fun K hK => ?_ | (with_reducible (refine hK _ _ ?_); clear hK K) | (with_reducible (refine hK _ ?_); clear hK K; intro wd hxd; have hS := Sep.xx hxd) | (have hk := hK; clear hk; simp (disch := first | exact dis | fail) only [push_cast, ↓reduceIte, Nat.reduceAdd, Nat.reduceLeDiff, Nat.reduceEqDiff, Nat.reduceLT, Int.reduceToNat, fct]) | ((first | refine brO_n ?_ ?_ | refine brQ_n ?_ ?_) <;> intro hb hc <;> first | (with_reducible exact False.elim hc) | (exfalso; omega) | (simp only [hb]; clear hb)) | ((with_reducible (show CallK _ 118 _ _ _ _ _)); refine zco 118 (rwrong_spec hS _ _) ?_; rintro vb wb ⟨rfl, hS⟩) | refine G.drg mixed fun K hK => ?_ | (refine G.cn ?_ ?_ <;> intro hc <;> first | (with_reducible exact False.elim hc) | (exfalso; omega) | skip))) <;> (try clear fct)
    all_goals
      (first | refine G.r1 ?_ | refine G.r2 ?_ | refine G.r3 ?_ | refine G.r0 ?_ | refine G.d0 ?_); (try simp (disch := first | exact dis | fail) only [push_cast, ↓reduceIte, Nat.reduceAdd, Nat.reduceLeDiff, Nat.reduceEqDiff, Nat.reduceLT, Int.reduceToNat, fct])
      first | exact hS | exact ⟨rfl, hS⟩
theorem take1_at (h : p < s.length) : (s.drop p).take 1 = [s.getD p 0] := by
  rw [List.drop_eq_getElem_cons h, List.getD_eq_getElem?_getD, List.getElem?_eq_getElem h]; rfl
def c139 : MC := (.seq (.reg [qq 6 (.mv (.const (S []))), qq 7 (.mv (kb false))]) (.seq (.seq (.reg [qm 8 1, qq 9 (.lenS (.tmp 8)), qm 10 0, qq 11 (.nck (.tmp 10)), qq 12 (.fad 3 (.tmp 11)), qq 13 (.fad 0 (.tmp 12)), qq 14 (.ld none (.tmp 13)), qq 15 (.bin .eql (.tmp 9) (.tmp 14))]) (.cond (.tmp 15) (.seq (.reg [qm 16 1, qm 17 0, qm 18 2, qq 19 (.call 118 [(.tmp 17), (ki 7), (.tmp 18)]), qm 6 16, qm 7 19]) .ret) .skip)) (.seq (.reg [qm 20 1, qm 21 0, qq 22 (.nck (.tmp 21)), qq 23 (.fad 7 (.tmp 22)), qq 24 (.ld none (.tmp 23)), qm 25 2, qm 26 2, qq 27 (.bin .add (.tmp 26) (ki 1)), qq 28 (.slS (.tmp 24) (.some (.tmp 25)) (.some (.tmp 27))), qq 29 (.bin .add (.tmp 20) (.tmp 28)), qm 6 29, qq 7 (.mv (kb true))]) .ret)))
theorem k139 : conv Tryz.prog 30 (Tryz.f139.body.getD .skip) = c139 := by kernel_rfl
theorem in139 {a0 a1 a2 : Value} {w : World} {R : Value → World → Prop} (h : G Tryz.prog Tryz.f139 30 [.c c139] R (frL 0 [a0, a1, a2]) w) : Ret Tryz.prog 139 #[a0, a1, a2] w R := G.enter (args := [a0, a1, a2]) Tryz.func139 (c := Tryz.f139.body.getD .skip) (by kernel_rfl) (by kernel_rfl) (by simp) k139 h
theorem radd_ok {f : Str} {i : Nat} (hS : Sep w0 w (boxC g 192 [I d.dl, I d.q, I d.e, I l.F, I l.N, I l.R, I (if l.U = true then 1 else 0), S s, I p, I bg, rv, Rv, Ev, I 0, I a] :: M)) (hl : s.length ≤ 1000000) (hf : f.length ≤ 1000000) (hi : i < s.length) (hF : ¬ (f.length : Int) = l.F) :
    Ret Tryz.prog 139 #[.pointer (some ⟨g, 0, none⟩), S f, I i] w fun res w' => res = .tuple #[S (f ++ [s.getD i 0]), .bool true] ∧ Sep w0 w' (boxC g 192 [I d.dl, I d.q, I d.e, I l.F, I l.N, I l.R, I (if l.U = true then 1 else 0), S s, I p, I bg, rv, Rv, Ev, I 0, I a] :: M) := by
  refine in139 ?_
  have e := take1_at hi
  have hT : ((i : Int) + 1).toNat - i = 1 := by omega
  (have fct := (And.intro @hT @e); repeat' (first | ((with_reducible apply G.a); exact rfl) | refine G.reg fun K hK => ?_ | (with_reducible (refine hK _ _ ?_); clear hK K) | (have hk := hK; clear hk; simp (disch := first | exact dis | fail) only [push_cast, ↓reduceIte, Nat.reduceAdd, Nat.reduceLeDiff, Nat.reduceEqDiff, Nat.reduceLT, Int.reduceToNat, fct]) | (refine G.cn ?_ ?_ <;> intro hc <;> first | (with_reducible exact False.elim hc) | (exfalso; omega) | skip))) <;> (try clear fct)
  all_goals
    (have fct := (And.intro @hT @e); (first | refine G.r1 ?_ | refine G.r2 ?_ | refine G.r3 ?_ | refine G.r0 ?_ | refine G.d0 ?_); (try simp (disch := first | exact dis | fail) only [push_cast, ↓reduceIte, Nat.reduceAdd, Nat.reduceLeDiff, Nat.reduceEqDiff, Nat.reduceLT, Int.reduceToNat, fct]); (try clear fct))
    first | exact hS | exact ⟨rfl, hS⟩
theorem radd_no {f : Str} {i : Nat} (hS : Sep w0 w (boxC g 192 [I d.dl, I d.q, I d.e, I l.F, I l.N, I l.R, I (if l.U = true then 1 else 0), S s, I p, I bg, rv, Rv, Ev, I 0, I a] :: M)) (hF : (f.length : Int) = l.F) :
    Ret Tryz.prog 139 #[.pointer (some ⟨g, 0, none⟩), S f, I i] w fun res w' => res = .tuple #[S f, .bool false] ∧ Sep w0 w' (boxC g 192 [I d.dl, I d.q, I d.e, I l.F, I l.N, I l.R, I (if l.U = true then 1 else 0), S s, I p, I bg, rv, Rv, Ev, I 7, I i] :: M) := by
  refine in139 ?_
  repeat' (first | ((with_reducible apply G.a); exact rfl) | refine G.reg fun K hK => ?_ | (with_reducible (refine hK _ _ ?_); clear hK K) | (have hk := hK; clear hk; simp (disch := first | exact dis | fail) only [push_cast, ↓reduceIte, Nat.reduceAdd, Nat.reduceLeDiff, Nat.reduceEqDiff, Nat.reduceLT, Int.reduceToNat, fct]) | ((with_reducible (show CallK _ 118 _ _ _ _ _)); refine zco 118 (rwrong_spec hS _ _) ?_; rintro vb wb ⟨rfl, hS⟩) | (refine G.cn ?_ ?_ <;> intro hc <;> first | (with_reducible exact False.elim hc) | (exfalso; omega) | skip))
  all_goals
    (first | refine G.r1 ?_ | refine G.r2 ?_ | refine G.r3 ?_ | refine G.r0 ?_ | refine G.d0 ?_); (try simp (disch := first | exact dis | fail) only [push_cast, ↓reduceIte, Nat.reduceAdd, Nat.reduceLeDiff, Nat.reduceEqDiff, Nat.reduceLT, Int.reduceToNat, fct])
    first | exact hS | exact ⟨rfl, hS⟩
end
section
variable {g : Nat} {d : Dl} {l : Lm} {s : Str} {p : Nat} {m : Mk} {acc : List (List Str × Nat)} {k a : Int} {M : List Chk} {w w0 : World}
def widM (l : Lm) (m : Mk) (acc : List (List Str × Nat)) : Bool := l.U && (decide (0 < acc.length) && !(decide (m.rc.length = (((acc.map Prod.fst).getD 0 []).length))))
def c121 : MC := (.seq (.reg [qq 4 (.mv (kb false))]) (.seq (.seq (.drg [qm 5 0, qq 6 (.nck (.tmp 5)), qq 7 (.fad 3 (.tmp 6)), qq 8 (.fad 3 (.tmp 7)), qq 9 (.ld none (.tmp 8)), qq 10 (.bin .eql (.tmp 9) (ki 1)), qm 11 10, qmt 11 12 0, qt 11 13 (.nck (.tmp 12)), qt 11 14 (.fad 11 (.tmp 13)), qt 11 15 (.fad 0 (.tmp 14)), qt 11 16 (.ld none (.tmp 15)), qt 11 17 (.len (.tmp 16)), qt 11 18 (.bin .gtr (.tmp 17) (ki 0)), qq 19 (.pick (.tmp 11) (.tmp 18) (kb false)), qm 20 19, qmt 20 21 0, qt 20 22 (.nck (.tmp 21)), qt 20 23 (.fad 10 (.tmp 22)), qt 20 24 (.ld none (.tmp 23)), qt 20 25 (.len (.tmp 24)), qmt 20 26 0, qt 20 27 (.nck (.tmp 26)), qt 20 28 (.fad 11 (.tmp 27)), qt 20 29 (.fad 0 (.tmp 28)), qt 20 30 (.ld none (.tmp 29)), qt 20 31 (.adr 1 (.tmp 30) (ki 0)), qt 20 32 (.ld none (.tmp 31)), qt 20 33 (.len (.tmp 32)), qt 20 34 (.bin .neq (.tmp 25) (.tmp 33)), qq 35 (.pick (.tmp 20) (.tmp 34) (kb false))] none) (.cond (.tmp 35) (.seq (.reg [qm 36 0, qm 37 1, qq 38 (.call 118 [(.tmp 36), (ki 10), (.tmp 37)]), qm 4 38]) .ret) .skip)) (.seq (.reg [qq 4 (.mv (kb true))]) .ret)))
theorem k121 : conv Tryz.prog 39 (Tryz.f121.body.getD .skip) = c121 := by kernel_rfl
theorem in121 {a0 a1 : Value} {w : World} {R : Value → World → Prop} (h : G Tryz.prog Tryz.f121 39 [.c c121] R (frL 0 [a0, a1]) w) : Ret Tryz.prog 121 #[a0, a1] w R := G.enter (args := [a0, a1]) Tryz.func121 (c := Tryz.f121.body.getD .skip) (by kernel_rfl) (by kernel_rfl) (by simp) k121 h
theorem rwidth_ok {rv Rv Ev : Value} {vs : List Value} (hS : Sep w0 w (boxC g 192 [I d.dl, I d.q, I d.e, I l.F, I l.N, I l.R, I (if l.U = true then 1 else 0), S s, I p, I m.bg, rv, Rv, Ev, I 0, I 0] :: accC rv 9 eS m.rc :: accC Rv 49 eV vs :: frzC eS vs (List.map Prod.fst acc) :: accC Ev 3 eI (List.map (fun x => (x.2 : Int)) acc) :: M)) (h : widM l m acc = false) (at' : Int) :
    Ret Tryz.prog 121 #[.pointer (some ⟨g, 0, none⟩), I at'] w fun res w' => res = .bool true ∧ Sep w0 w' (boxC g 192 [I d.dl, I d.q, I d.e, I l.F, I l.N, I l.R, I (if l.U = true then 1 else 0), S s, I p, I m.bg, rv, Rv, Ev, I 0, I 0] :: accC rv 9 eS m.rc :: accC Rv 49 eV vs :: frzC eS vs (List.map Prod.fst acc) :: accC Ev 3 eI (List.map (fun x => (x.2 : Int)) acc) :: M) := by
  refine in121 ?_
  have hlen := hS.frzLen (.t (.t (.t .h)))
  rw [List.length_map] at hlen
  unfold widM at h
  by_cases hU : l.U = true
  rotate_left
  · (have fct := @hU; repeat' (first | ((with_reducible apply G.a); exact rfl) | refine G.reg fun K hK => ?_ | (with_reducible (refine hK _ _ ?_); clear hK K) | (with_reducible (refine hK _ ?_); clear hK K; intro wd hxd; have hS := Sep.xx hxd) | (have hk := hK; clear hk; simp (disch := first | exact dis | fail) only [push_cast, ↓reduceIte, Nat.reduceAdd, Nat.reduceLeDiff, Nat.reduceEqDiff, Nat.reduceLT, Int.reduceToNat, fct]) | ((first | refine brO_n ?_ ?_ | refine brQ_n ?_ ?_) <;> intro hb hc <;> first | (with_reducible exact False.elim hc) | (exfalso; omega) | (simp only [hb]; clear hb)) | refine G.drg mixed fun K hK => ?_ | (refine G.cn ?_ ?_ <;> intro hc <;> first | (with_reducible exact False.elim hc) | (exfalso; omega) | skip))) <;> (try clear fct)
    all_goals
      (first | refine G.r1 ?_ | refine G.r2 ?_ | refine G.r3 ?_ | refine G.r0 ?_ | refine G.d0 ?_); (try simp (disch := first | exact dis | fail) only [push_cast, ↓reduceIte, Nat.reduceAdd, Nat.reduceLeDiff, Nat.reduceEqDiff, Nat.reduceLT, Int.reduceToNat, fct])
      first | exact hS | exact ⟨rfl, hS⟩
  · by_cases h0 : 0 < acc.length
    · have hr := hS.frzAt (.t (.t (.t .h))) (i := 0) (by simpa using h0)
      rw [hU, decide_eq_true h0] at h
      simp only [Bool.true_and, Bool.not_eq_false', decide_eq_true_eq] at h
      (have fct := @hU; repeat' (first | ((with_reducible apply G.a); exact rfl) | refine G.reg fun K hK => ?_ | (with_reducible (refine hK _ _ ?_); clear hK K) | (with_reducible (refine hK _ ?_); clear hK K; intro wd hxd; have hS := Sep.xx hxd) | (have hk := hK; clear hk; simp (disch := first | exact dis | fail) only [push_cast, ↓reduceIte, Nat.reduceAdd, Nat.reduceLeDiff, Nat.reduceEqDiff, Nat.reduceLT, Int.reduceToNat, fct]) | ((first | refine brO_n ?_ ?_ | refine brQ_n ?_ ?_) <;> intro hb hc <;> first | (with_reducible exact False.elim hc) | (exfalso; omega) | (simp only [hb]; clear hb)) | refine G.drg mixed fun K hK => ?_ | (refine G.cn ?_ ?_ <;> intro hc <;> first | (with_reducible exact False.elim hc) | (exfalso; omega) | skip))) <;> (try clear fct)
      all_goals
        (first | refine G.r1 ?_ | refine G.r2 ?_ | refine G.r3 ?_ | refine G.r0 ?_ | refine G.d0 ?_); (try simp (disch := first | exact dis | fail) only [push_cast, ↓reduceIte, Nat.reduceAdd, Nat.reduceLeDiff, Nat.reduceEqDiff, Nat.reduceLT, Int.reduceToNat, fct])
        first | exact hS | exact ⟨rfl, hS⟩
    · (have fct := @hU; repeat' (first | ((with_reducible apply G.a); exact rfl) | refine G.reg fun K hK => ?_ | (with_reducible (refine hK _ _ ?_); clear hK K) | (with_reducible (refine hK _ ?_); clear hK K; intro wd hxd; have hS := Sep.xx hxd) | (have hk := hK; clear hk; simp (disch := first | exact dis | fail) only [push_cast, ↓reduceIte, Nat.reduceAdd, Nat.reduceLeDiff, Nat.reduceEqDiff, Nat.reduceLT, Int.reduceToNat, fct]) | ((first | refine brO_n ?_ ?_ | refine brQ_n ?_ ?_) <;> intro hb hc <;> first | (with_reducible exact False.elim hc) | (exfalso; omega) | (simp only [hb]; clear hb)) | refine G.drg mixed fun K hK => ?_ | (refine G.cn ?_ ?_ <;> intro hc <;> first | (with_reducible exact False.elim hc) | (exfalso; omega) | skip))) <;> (try clear fct)
      all_goals
        (first | refine G.r1 ?_ | refine G.r2 ?_ | refine G.r3 ?_ | refine G.r0 ?_ | refine G.d0 ?_); (try simp (disch := first | exact dis | fail) only [push_cast, ↓reduceIte, Nat.reduceAdd, Nat.reduceLeDiff, Nat.reduceEqDiff, Nat.reduceLT, Int.reduceToNat, fct])
        first | exact hS | exact ⟨rfl, hS⟩
theorem rwidth_no {rv Rv Ev : Value} {vs : List Value} (hS : Sep w0 w (boxC g 192 [I d.dl, I d.q, I d.e, I l.F, I l.N, I l.R, I (if l.U = true then 1 else 0), S s, I p, I m.bg, rv, Rv, Ev, I 0, I 0] :: accC rv 9 eS m.rc :: accC Rv 49 eV vs :: frzC eS vs (List.map Prod.fst acc) :: accC Ev 3 eI (List.map (fun x => (x.2 : Int)) acc) :: M)) (h : widM l m acc = true) (at' : Int) :
    Ret Tryz.prog 121 #[.pointer (some ⟨g, 0, none⟩), I at'] w fun res w' => res = .bool false ∧ Sep w0 w' (boxC g 192 [I d.dl, I d.q, I d.e, I l.F, I l.N, I l.R, I (if l.U = true then 1 else 0), S s, I p, I m.bg, rv, Rv, Ev, I 10, I at'] :: accC rv 9 eS m.rc :: accC Rv 49 eV vs :: frzC eS vs (List.map Prod.fst acc) :: accC Ev 3 eI (List.map (fun x => (x.2 : Int)) acc) :: M) := by
  refine in121 ?_
  have hlen := hS.frzLen (.t (.t (.t .h)))
  rw [List.length_map] at hlen
  unfold widM at h
  simp only [Bool.and_eq_true, decide_eq_true_eq, Bool.not_eq_true', decide_eq_false_iff_not] at h
  obtain ⟨hU, h0, h1⟩ := h
  have hr := hS.frzAt (.t (.t (.t .h))) (i := 0) (by simpa using h0)
  (have fct := @hU; repeat' (first | ((with_reducible apply G.a); exact rfl) | refine G.reg fun K hK => ?_ | (with_reducible (refine hK _ _ ?_); clear hK K) | (with_reducible (refine hK _ ?_); clear hK K; intro wd hxd; have hS := Sep.xx hxd) | (have hk := hK; clear hk; simp (disch := first | exact dis | fail) only [push_cast, ↓reduceIte, Nat.reduceAdd, Nat.reduceLeDiff, Nat.reduceEqDiff, Nat.reduceLT, Int.reduceToNat, fct]) | ((first | refine brO_n ?_ ?_ | refine brQ_n ?_ ?_) <;> intro hb hc <;> first | (with_reducible exact False.elim hc) | (exfalso; omega) | (simp only [hb]; clear hb)) | ((with_reducible (show CallK _ 118 _ _ _ _ _)); refine zco 118 (rwrong_spec hS _ _) ?_; rintro vb wb ⟨rfl, hS⟩) | refine G.drg mixed fun K hK => ?_ | (refine G.cn ?_ ?_ <;> intro hc <;> first | (with_reducible exact False.elim hc) | (exfalso; omega) | skip))) <;> (try clear fct)
  all_goals
    (first | refine G.r1 ?_ | refine G.r2 ?_ | refine G.r3 ?_ | refine G.r0 ?_ | refine G.d0 ?_); (try simp (disch := first | exact dis | fail) only [push_cast, ↓reduceIte, Nat.reduceAdd, Nat.reduceLeDiff, Nat.reduceEqDiff, Nat.reduceLT, Int.reduceToNat, fct])
    first | exact hS | exact ⟨rfl, hS⟩
def c122 : MC := (.seq (.drg [qm 4 0, qm 5 0, qq 6 (.nck (.tmp 5)), qq 7 (.fad 11 (.tmp 6)), qq 8 (.fad 0 (.tmp 7)), qq 9 (.ld none (.tmp 8)), qm 10 0, qq 11 (.nck (.tmp 10)), qq 12 (.fad 10 (.tmp 11)), qq 13 (.ld none (.tmp 12)), qq 14 (.bsl 49 [(.slice none 0 0)] 1 [⟨0, ⟨1, (.tmp 13)⟩⟩]), qq 15 (.raw (.call ⟨(.builtin .append), #[(.tmp 9), (.tmp 14)], #[82, 82]⟩) 82), qq 16 (.nck (.tmp 4)), qq 17 (.fad 11 (.tmp 16)), qq 18 (.fad 0 (.tmp 17)), qn (.st 1 (.tmp 18) (.tmp 15))] (.some (.br [qm 4 0, qm 5 0, qq 6 (.nck (.tmp 5)), qq 7 (.fad 11 (.tmp 6)), qq 8 (.fad 0 (.tmp 7)), qm 10 0, qq 11 (.nck (.tmp 10)), qq 12 (.fad 10 (.tmp 11))] (.leaf [qq 9 (.ld none (.tmp 8)), qq 13 (.ld none (.tmp 12)), qq 14 (.bsl 49 [(.slice none 0 0)] 1 [⟨0, ⟨1, (.tmp 13)⟩⟩]), qq 15 (.raw (.call ⟨(.builtin .append), #[(.tmp 9), (.tmp 14)], #[82, 82]⟩) 82), qq 16 (.nck (.tmp 4)), qq 17 (.fad 11 (.tmp 16)), qq 18 (.fad 0 (.tmp 17)), qn (.st 1 (.tmp 18) (.tmp 15))]) (.br [qq 13 (.ld none (.tmp 12))] (.leaf [qq 9 (.ld none (.tmp 8)), qq 14 (.bsl 49 [(.slice none 0 0)] 1 [⟨0, ⟨1, (.tmp 13)⟩⟩]), qq 15 (.raw (.call ⟨(.builtin .append), #[(.tmp 9), (.tmp 14)], #[82, 82]⟩) 82), qq 16 (.nck (.tmp 4)), qq 17 (.fad 11 (.tmp 16)), qq 18 (.fad 0 (.tmp 17)), qn (.st 1 (.tmp 18) (.tmp 15))]) (.leaf [qq 14 (.bsl 49 [(.slice none 0 0)] 1 [⟨0, ⟨1, (.tmp 13)⟩⟩]), qq 9 (.ld none (.tmp 8)), qq 15 (.raw (.call ⟨(.builtin .append), #[(.tmp 9), (.tmp 14)], #[82, 82]⟩) 82), qq 16 (.nck (.tmp 4)), qq 17 (.fad 11 (.tmp 16)), qq 18 (.fad 0 (.tmp 17)), qn (.st 1 (.tmp 18) (.tmp 15))]))))) (.seq (.reg [qm 19 0, qm 20 0, qq 21 (.nck (.tmp 20)), qq 22 (.fad 11 (.tmp 21)), qq 23 (.fad 1 (.tmp 22)), qq 24 (.ld none (.tmp 23)), qm 25 1, qq 26 (.bsl 3 [(.int .i64 0)] 1 [⟨0, ⟨1, (.tmp 25)⟩⟩]), qq 27 (.raw (.call ⟨(.builtin .append), #[(.tmp 24), (.tmp 26)], #[90, 90]⟩) 90), qq 28 (.nck (.tmp 19)), qq 29 (.fad 11 (.tmp 28)), qq 30 (.fad 1 (.tmp 29)), qn (.st 1 (.tmp 30) (.tmp 27))]) (.reg [qm 31 0, qq 32 (.nck (.tmp 31)), qq 33 (.fad 10 (.tmp 32)), qn (.st 1 (.tmp 33) (.const (.slice none 0 0)))])))
theorem k122 : conv Tryz.prog 34 (Tryz.f122.body.getD .skip) = c122 := by kernel_rfl
theorem in122 {a0 a1 : Value} {w : World} {R : Value → World → Prop} (h : G Tryz.prog Tryz.f122 34 [.c c122] R (frL 0 [a0, a1]) w) : Ret Tryz.prog 122 #[a0, a1] w R := G.enter (args := [a0, a1]) Tryz.func122 (c := Tryz.f122.body.getD .skip) (by kernel_rfl) (by kernel_rfl) (by simp) k122 h
theorem rwhole_spec {rv Rv Ev : Value} {vs : List Value} (hS : Sep w0 w (boxC g 192 [I d.dl, I d.q, I d.e, I l.F, I l.N, I l.R, I (if l.U = true then 1 else 0), S s, I p, I m.bg, rv, Rv, Ev, I 0, I 0] :: accC rv 9 eS m.rc :: accC Rv 49 eV vs :: frzC eS vs (List.map Prod.fst acc) :: accC Ev 3 eI (List.map (fun x => (x.2 : Int)) acc) :: M)) (hl : acc.length ≤ 1000000) (i : Nat) :
    Ret Tryz.prog 122 #[.pointer (some ⟨g, 0, none⟩), I i] w fun res w' => res = .tuple #[] ∧ RdrS w0 w' g d l s p { m with rc := [] } (acc ++ [(m.rc, i)]) 0 0 M := by
  refine in122 ?_
  have hlen := hS.frzLen (.t (.t (.t .h)))
  rw [List.length_map] at hlen
  repeat' (first | ((with_reducible apply G.a); exact rfl) | refine G.reg fun K hK => ?_ | (with_reducible (refine hK _ _ ?_); clear hK K) | (with_reducible (refine hK _ ?_); clear hK K; intro wd hxd; have hS := Sep.xx hxd) | ((first | have hk := hK | have hk := hK2); clear hk; simp (disch := first | exact dis | fail) only [push_cast, ↓reduceIte, Nat.reduceAdd, Nat.reduceLeDiff, Nat.reduceEqDiff, Nat.reduceLT, Int.reduceToNat, fct]) | (refine zbsl ?_; intro gb wb hS) | ((with_reducible refine gSt ?_); refine zs2 ?_; intro wb hS) | (refine zap ?_; intro vb wb hS) | (refine G.drt mixed fun K hK wd hxd => ?_; have hS := Sep.xx hxd) | with_reducible refine OT_leaf ?_ | (with_reducible (refine hK2 _ ?_); clear hK2 K2; intro wd hxd; have hS := Sep.xx hxd) | with_reducible refine OT_br fun K2 hK2 => ?_ | (refine hK2 _ _ ?_ ?_ <;> clear hK2 K2) | refine G.drg mixed fun K hK => ?_)
  all_goals
    refine G.done0 rfl ⟨rfl, ?_⟩
    have hS := (hS.frzPush (.t .h) (.t (.t .h))).nil 9 eS
    exact RdrS.of hS (by repeat constructor) (by repeat constructor) (by repeat constructor) (by repeat constructor) (by repeat constructor) (by simp) (by simp)
end
end Go.Proofs.YtdikpaochhacmaaGreatDoor
