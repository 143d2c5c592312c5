/- Texts of the proof, joined. -/
import Derived.Test.YtigifbjdmdcboaawSo
import Derived.Test.YtigifbjdmdcboaawP06
import Derived.Test.YtigifbjdmdcboaawP15
import Derived.Test.YtigifbjdmdcboaawR02
namespace Go.Proofs.Ytigifbjdmdcboaa
set_option linter.unusedSimpArgs false
set_option linter.unusedVariables false
attribute [local irreducible] SemK UnitK StK AlcK BslK CallK CallV Instr.box Builtin.append_ Instr.makeSlice Instr.makeMap Instr.lookup Instr.mapUpdate Instr.sliceAt convert
open Go.RowKit
theorem G.d0 {P : Program} {fn : Func} {n : Nat} {ρ : Fr} {w : World} {R : Value → World → Prop} (h : R (.tuple #[]) w) (hf : fn.results = #[] := by rfl) : G P fn n [] R ρ w := G.done0 hf h
structure Gs where
  d : Dl
  sc : Int
instance : Inhabited Gs := ⟨⟨⟨0, 0, 0⟩, 0⟩⟩
def eG : Enc Gs := ⟨4, fun g => [U g.d.dl, U g.d.q, I g.d.e, I g.sc], fun _ => rfl⟩
instance : EncSz eG 4 := ⟨rfl⟩
theorem eG_3 (g : Gs) : (eG.f g).getD 3 undef = I g.sc := rfl
theorem eG_one (g : Gs) : ∀ u ∈ eG.f g, One u := by simp [eG, one_i]
theorem eG_l (g : Gs) : (eG.f g).length = 4 := rfl
def ixD (d : Dl) : Nat := (if d.dl = 44 then 0 else if d.dl = 59 then 6 else if d.dl = 9 then 12 else 18) + (if d.q = 34 then 0 else 3) + (d.e - 1).toNat
abbrev gsc (g : Gs) : Int := g.sc
abbrev gix (g : Gs) : Nat := ixD g.d
def BdG (xs : List Gs) : Prop := xs.length ≤ 1000000 ∧ ∀ g ∈ xs, 0 ≤ g.sc ∧ g.sc ≤ 4000000000000
theorem BdG.of {xs : List Gs} (h1 : xs.length ≤ 1000000) (h : ∀ g ∈ xs, 0 ≤ g.sc ∧ g.sc ≤ 4000000000000) : BdG xs := ⟨h1, h⟩
theorem BdG.perm {xs ys : List Gs} (h : BdG xs) (hp : ys.Perm xs) : BdG ys := ⟨by rw [hp.length_eq]; exact h.1, fun g hg => h.2 g (hp.mem_iff.1 hg)⟩
theorem BdG.at {xs : List Gs} (h : BdG xs) {k : Nat} (hk : k < xs.length) : 0 ≤ (xs.getD k default).sc ∧ (xs.getD k default).sc ≤ 4000000000000 := h.2 _ (getD_mem xs k (by omega))
def c43 : MC := (.seq (.reg [qq 2 (.raw (.box 54 (.tmp 0)) 0), qq 3 (.raw (.box 54 (.tmp 1)) 0), qq 4 (.mv (ki 0))]) (.seq (.reg [qq 5 (.fad 3 (.tmp 3)), qq 6 (.ld none (.tmp 5)), qq 7 (.fad 3 (.tmp 2)), qq 8 (.ld none (.tmp 7)), qq 9 (.bin .sub (.tmp 6) (.tmp 8)), qm 4 9]) .ret))
theorem k43 : conv Try.prog 10 (Try.f43.body.getD .skip) = c43 := by kernel_rfl
theorem in43 {a0 a1 : Value} {w : World} {R : Value → World → Prop} (h : G Try.prog Try.f43 10 [.c c43] R (frL 0 [a0, a1]) w) : Ret Try.prog 43 #[a0, a1] w R := G.enter (args := [a0, a1]) Try.func43 (c := Try.f43.body.getD .skip) (by kernel_rfl) (by kernel_rfl) (by simp) k43 h
theorem gcmp_spec (a b : Gs) (w : World) (ha : 0 ≤ a.sc ∧ a.sc ≤ 4000000000000) (hb : 0 ≤ b.sc ∧ b.sc ≤ 4000000000000) : Pu Try.prog 43 #[.agg (eG.f a).toArray, .agg (eG.f b).toArray] w (I (b.sc - a.sc)) := by
  refine in43 ?_
  have hS := Sep.start w
  have l1 := eG_l a
  have l2 := eG_l b
  (have fct := @eG_3; repeat' (first | ((with_reducible apply G.a); exact rfl) | refine G.reg fun K hK => ?_ | (with_reducible (refine hK _ _ ?_); clear hK K) | (have hk := hK; clear hk; simp (disch := first | exact dis | fail) only [push_cast, ↓reduceIte, Nat.reduceAdd, Nat.reduceLeDiff, Nat.reduceEqDiff, Nat.reduceLT, Int.reduceToNat, fct]) | (((with_reducible refine gBox ?_); refine zbox ?_); intro gb wb hS))) <;> (try clear fct)
  (first | refine G.r1 ?_ | refine G.r2 ?_ | refine G.r3 ?_ | refine G.r0 ?_ | refine G.d0 ?_); (try simp (disch := first | exact dis | fail) only [push_cast, ↓reduceIte, Nat.reduceAdd, Nat.reduceLeDiff, Nat.reduceEqDiff, Nat.reduceLT, Int.reduceToNat, fct])
  exact Sep.xt (by assumption)
section
variable {v : Value} {w w0 : World} {M : List Chk} {xs : List Gs}
def c115l1 : MC := (.seq (.seq (.reg [qm 11 10, qm 12 3, qq 13 (.bin .lss (.tmp 11) (.tmp 12))]) (.cond (.tmp 13) .skip (.exit 0))) (.seq (.blk 1 (.drg [qm 16 0, qm 17 1, qm 18 10, qq 19 (.bin .add (.tmp 17) (.tmp 18)), qm 20 0, qm 21 2, qm 22 10, qq 23 (.bin .add (.tmp 21) (.tmp 22)), qm 24 0, qm 25 2, qm 26 10, qq 27 (.bin .add (.tmp 25) (.tmp 26)), qq 28 (.adr 4 (.tmp 24) (.tmp 27)), qq 29 (.ld (.some 4) (.tmp 28)), qm 30 0, qm 31 1, qm 32 10, qq 33 (.bin .add (.tmp 31) (.tmp 32)), qq 34 (.adr 4 (.tmp 30) (.tmp 33)), qq 35 (.ld (.some 4) (.tmp 34)), qq 36 (.adr 4 (.tmp 16) (.tmp 19)), qn (.st 4 (.tmp 36) (.tmp 29)), qq 37 (.adr 4 (.tmp 20) (.tmp 23)), qn (.st 4 (.tmp 37) (.tmp 35))] (.some (.br [qm 16 0, qm 17 1, qm 18 10, qq 19 (.bin .add (.tmp 17) (.tmp 18)), qm 20 0, qm 21 2, qm 22 10, qq 23 (.bin .add (.tmp 21) (.tmp 22)), qm 24 0, qm 25 2, qm 26 10, qq 27 (.bin .add (.tmp 25) (.tmp 26)), qq 28 (.adr 4 (.tmp 24) (.tmp 27)), qm 30 0, qm 31 1, qm 32 10, qq 33 (.bin .add (.tmp 31) (.tmp 32)), qq 34 (.adr 4 (.tmp 30) (.tmp 33))] (.leaf [qq 29 (.ld (.some 4) (.tmp 28)), qq 35 (.ld (.some 4) (.tmp 34)), qq 36 (.adr 4 (.tmp 16) (.tmp 19)), qn (.st 4 (.tmp 36) (.tmp 29)), qq 37 (.adr 4 (.tmp 20) (.tmp 23)), qn (.st 4 (.tmp 37) (.tmp 35))]) (.leaf [qq 35 (.ld (.some 4) (.tmp 34)), qq 29 (.ld (.some 4) (.tmp 28)), qq 36 (.adr 4 (.tmp 16) (.tmp 19)), qn (.st 4 (.tmp 36) (.tmp 29)), qq 37 (.adr 4 (.tmp 20) (.tmp 23)), qn (.st 4 (.tmp 37) (.tmp 35))]))))) (.reg [qm 14 10, qq 15 (.bin .add (.tmp 14) (ki 1)), qm 10 15])))
def c115 : MC := (.seq (.reg [qq 10 (.mv (ki 0))]) (.blk 0 (.loop c115l1)))
theorem k115 : conv Try.prog 38 (Try.f115.body.getD .skip) = c115 := by kernel_rfl
theorem in115 {a0 a1 a2 a3 a4 : Value} {w : World} {R : Value → World → Prop} (h : G Try.prog Try.f115 38 [.c c115] R (frL 0 [a0, a1, a2, a3, a4]) w) : Ret Try.prog 115 #[a0, a1, a2, a3, a4] w R := G.enter (args := [a0, a1, a2, a3, a4]) Try.func115 (c := Try.f115.body.getD .skip) (by kernel_rfl) (by kernel_rfl) (by simp) k115 h
theorem swr_spec (hS : Sep w0 w (accC v 54 eG xs :: M)) (hB : BdG xs) (a b n : Nat) (hab : a + n ≤ b) (hb : b + n ≤ xs.length) :
    Ret Try.prog 115 #[v, I a, I b, I n, (.func (.func 43) #[] #[])] w fun res w' => res = .tuple #[] ∧ ∃ ys, ys.Perm xs ∧ At xs ys (rangeSw a b n) ∧ Sep w0 w' (accC v 54 eG ys :: M) := by
  refine in115 ?_
  have hB1 := hB.1
  repeat' (first | ((with_reducible apply G.a); exact rfl) | refine G.reg fun K hK => ?_ | (with_reducible (refine hK _ _ ?_); clear hK K) | (with_reducible (refine hK _ ?_); clear hK K; intro wd hxd; have hS := Sep.xx hxd) | ((first | have hk := hK | have hk := hK2); clear hk; simp (disch := first | exact dis | fail) only [push_cast, ↓reduceIte, Nat.reduceAdd, Nat.reduceLeDiff, Nat.reduceEqDiff, Nat.reduceLT, Int.reduceToNat, fct]) | ((with_reducible refine gSt ?_); refine zs2 ?_; intro wb hS) | (refine G.drt mixed fun K hK wd hxd => ?_; have hS := Sep.xx hxd) | with_reducible refine OT_leaf ?_ | (with_reducible (refine hK2 _ ?_); clear hK2 K2; intro wd hxd; have hS := Sep.xx hxd) | with_reducible refine OT_br fun K2 hK2 => ?_ | (refine hK2 _ _ ?_ ?_ <;> clear hK2 K2) | refine G.drg mixed fun K hK => ?_ | (refine G.cn ?_ ?_ <;> intro hc <;> first | (with_reducible exact False.elim hc) | (exfalso; omega) | skip))
  refine G.loop (fun r w' => ∃ (i : Nat) (cur : List Gs), i ≤ n ∧ cur.Perm xs ∧ At xs cur (rangeSw a b i) ∧ r 0 = v ∧ r 1 = I a ∧ r 2 = I b ∧ r 3 = I n ∧ r 10 = I i ∧ Sep w0 w' (accC v 54 eG cur :: M)) (fun r _ => n - toN (r 10)) ?_ ?_
  · exact ⟨0, xs, Nat.zero_le _, .refl _, fun k => by rw [range_zero], by simp only [push_cast, ↓reduceIte, Nat.reduceAdd, Nat.reduceLeDiff, Nat.reduceEqDiff, Nat.reduceLT, Int.reduceToNat], by simp only [push_cast, ↓reduceIte, Nat.reduceAdd, Nat.reduceLeDiff, Nat.reduceEqDiff, Nat.reduceLT, Int.reduceToNat], by simp only [push_cast, ↓reduceIte, Nat.reduceAdd, Nat.reduceLeDiff, Nat.reduceEqDiff, Nat.reduceLT, Int.reduceToNat], by simp only [push_cast, ↓reduceIte, Nat.reduceAdd, Nat.reduceLeDiff, Nat.reduceEqDiff, Nat.reduceLT, Int.reduceToNat], by simp only [push_cast, ↓reduceIte, Nat.reduceAdd, Nat.reduceLeDiff, Nat.reduceEqDiff, Nat.reduceLT, Int.reduceToNat] <;> rfl, hS⟩
  · clear hS
    rintro u wl ⟨i, cur, hi, hp, ha, q0, q1, q2, q3, q10, hS⟩ ih
    have hm : toN (u 10) = i := by rw [q10]; simp [toN]
    have hcl := hp.length_eq
    by_cases hlt : (i : Int) < n
    · obtain ⟨p, ep⟩ : ∃ p, p = a + i := ⟨_, rfl⟩
      obtain ⟨q, eq⟩ : ∃ q, q = b + i := ⟨_, rfl⟩
      have fp : (a : Int) + (i : Int) = (p : Int) := by omega
      have fq : (b : Int) + (i : Int) = (q : Int) := by omega
      (have fct := (And.intro @q0 (And.intro @q1 (And.intro @q2 (And.intro @q3 (And.intro @q10 (And.intro @fp @fq)))))); repeat' (first | ((with_reducible apply G.a); exact rfl) | refine G.reg fun K hK => ?_ | (with_reducible (refine hK _ _ ?_); clear hK K) | (with_reducible (refine hK _ ?_); clear hK K; intro wd hxd; have hS := Sep.xx hxd) | ((first | have hk := hK | have hk := hK2); clear hk; simp (disch := first | exact dis | fail) only [push_cast, ↓reduceIte, Nat.reduceAdd, Nat.reduceLeDiff, Nat.reduceEqDiff, Nat.reduceLT, Int.reduceToNat, fct]) | ((with_reducible refine gSt ?_); refine zs2 ?_; intro wb hS) | (refine zse ?_ (h1 := eG_one _); intro wb hS) | (refine G.drt mixed fun K hK wd hxd => ?_; have hS := Sep.xx hxd) | with_reducible refine OT_leaf ?_ | (with_reducible (refine hK2 _ ?_); clear hK2 K2; intro wd hxd; have hS := Sep.xx hxd) | with_reducible refine OT_br fun K2 hK2 => ?_ | (refine hK2 _ _ ?_ ?_ <;> clear hK2 K2) | refine G.drg mixed fun K hK => ?_ | (refine G.cn ?_ ?_ <;> intro hc <;> first | (with_reducible exact False.elim hc) | (exfalso; omega) | skip))) <;> (try clear fct)
      all_goals
        have fct := (And.intro @q0 (And.intro @q1 (And.intro @q2 (And.intro @q3 @q10)))); refine ih _ _ ⟨i + 1, swapL cur p q, by omega, (swapL_perm cur p q (by omega) (by omega)).trans hp, by rw [ep, eq]; exact range_step (n := n) ha (by omega) hab hcl (by omega), by exact sf, by exact sf, by exact sf, by exact sf, by exact sf, hS⟩ ?_
        rw [hm]; simp only [push_cast, ↓reduceIte, Nat.reduceAdd, Nat.reduceLeDiff, Nat.reduceEqDiff, Nat.reduceLT, Int.reduceToNat, toN_i, q0, q1, q2, q3, q10]; omega
    · (have fct := (And.intro @q0 (And.intro @q1 (And.intro @q2 (And.intro @q3 @q10)))); repeat' (first | ((with_reducible apply G.a); exact rfl) | refine G.reg fun K hK => ?_ | (with_reducible (refine hK _ _ ?_); clear hK K) | (with_reducible (refine hK _ ?_); clear hK K; intro wd hxd; have hS := Sep.xx hxd) | ((first | have hk := hK | have hk := hK2); clear hk; simp (disch := first | exact dis | fail) only [push_cast, ↓reduceIte, Nat.reduceAdd, Nat.reduceLeDiff, Nat.reduceEqDiff, Nat.reduceLT, Int.reduceToNat, fct]) | ((with_reducible refine gSt ?_); refine zs2 ?_; intro wb hS) | (refine G.drt mixed fun K hK wd hxd => ?_; have hS := Sep.xx hxd) | with_reducible refine OT_leaf ?_ | (with_reducible (refine hK2 _ ?_); clear hK2 K2; intro wd hxd; have hS := Sep.xx hxd) | with_reducible refine OT_br fun K2 hK2 => ?_ | (refine hK2 _ _ ?_ ?_ <;> clear hK2 K2) | refine G.drg mixed fun K hK => ?_ | (refine G.cn ?_ ?_ <;> intro hc <;> first | (with_reducible exact False.elim hc) | (exfalso; omega) | skip))) <;> (try clear fct)
      (have fct := (And.intro @q0 (And.intro @q1 (And.intro @q2 (And.intro @q3 @q10)))); (first | refine G.r1 ?_ | refine G.r2 ?_ | refine G.r3 ?_ | refine G.r0 ?_ | refine G.d0 ?_); (try simp (disch := first | exact dis | fail) only [push_cast, ↓reduceIte, Nat.reduceAdd, Nat.reduceLeDiff, Nat.reduceEqDiff, Nat.reduceLT, Int.reduceToNat, fct]); (try clear fct))
      have e : i = n := by omega
      subst e
      exact ⟨cur, hp, ha, hS⟩
def c103l1 : MC := (.seq (.seq (.reg [qm 18 10, qm 19 11, qq 20 (.bin .neq (.tmp 18) (.tmp 19))]) (.cond (.tmp 20) .skip (.exit 0))) (.blk 1 (.seq (.reg [qm 21 10, qm 22 11, qq 23 (.bin .gtr (.tmp 21) (.tmp 22))]) (.cond (.tmp 23) (.seq (.reg [qm 24 0, qm 25 2, qm 26 10, qq 27 (.bin .sub (.tmp 25) (.tmp 26)), qm 28 2, qm 29 11, qm 30 4, qq 31 (.call 115 [(.tmp 24), (.tmp 27), (.tmp 28), (.tmp 29), (.tmp 30)])]) (.reg [qm 32 10, qm 33 11, qq 34 (.bin .sub (.tmp 32) (.tmp 33)), qm 10 34])) (.seq (.reg [qm 35 0, qm 36 2, qm 37 10, qq 38 (.bin .sub (.tmp 36) (.tmp 37)), qm 39 2, qm 40 11, qq 41 (.bin .add (.tmp 39) (.tmp 40)), qm 42 10, qq 43 (.bin .sub (.tmp 41) (.tmp 42)), qm 44 10, qm 45 4, qq 46 (.call 115 [(.tmp 35), (.tmp 38), (.tmp 43), (.tmp 44), (.tmp 45)])]) (.reg [qm 47 11, qm 48 10, qq 49 (.bin .sub (.tmp 47) (.tmp 48)), qm 11 49]))))))
def c103 : MC := (.seq (.reg [qm 12 2, qm 13 1, qq 14 (.bin .sub (.tmp 12) (.tmp 13)), qm 10 14]) (.seq (.reg [qm 15 3, qm 16 2, qq 17 (.bin .sub (.tmp 15) (.tmp 16)), qm 11 17]) (.seq (.blk 0 (.loop c103l1)) (.reg [qm 50 0, qm 51 2, qm 52 10, qq 53 (.bin .sub (.tmp 51) (.tmp 52)), qm 54 2, qm 55 10, qm 56 4, qq 57 (.call 115 [(.tmp 50), (.tmp 53), (.tmp 54), (.tmp 55), (.tmp 56)])]))))
theorem k103 : conv Try.prog 58 (Try.f103.body.getD .skip) = c103 := by kernel_rfl
theorem in103 {a0 a1 a2 a3 a4 : Value} {w : World} {R : Value → World → Prop} (h : G Try.prog Try.f103 58 [.c c103] R (frL 0 [a0, a1, a2, a3, a4]) w) : Ret Try.prog 103 #[a0, a1, a2, a3, a4] w R := G.enter (args := [a0, a1, a2, a3, a4]) Try.func103 (c := Try.f103.body.getD .skip) (by kernel_rfl) (by kernel_rfl) (by simp) k103 h
set_option maxHeartbeats 1000000 in
theorem rot_spec (hS : Sep w0 w (accC v 54 eG xs :: M)) (hB : BdG xs) (a m b : Nat) (ham : a < m) (hmb : m < b) (hb : b ≤ xs.length) :
    Ret Try.prog 103 #[v, I a, I m, I b, (.func (.func 43) #[] #[])] w fun res w' => res = .tuple #[] ∧ ∃ ys, ys.Perm xs ∧ At xs ys (rotSw a m b) ∧ Sep w0 w' (accC v 54 eG ys :: M) := by
  refine in103 ?_
  have hB1 := hB.1
  obtain ⟨i0, ei⟩ : ∃ i0, i0 = m - a := ⟨_, rfl⟩
  obtain ⟨j0, ej⟩ : ∃ j0, j0 = b - m := ⟨_, rfl⟩
  have fi : (m : Int) - (a : Int) = (i0 : Int) := by omega
  have fj : (b : Int) - (m : Int) = (j0 : Int) := by omega
  obtain ⟨T, hT⟩ : ∃ T : List Gs, T = (List.range xs.length).map fun k => xs.getD (rotSw a m b k) default := ⟨_, rfl⟩
  have hTl : T.length = xs.length := by rw [hT]; simp
  have hTa : At xs T (rotSw a m b) := by
    intro k
    rw [hT]
    by_cases hk : k < xs.length
    · simp [List.getD_eq_getElem?_getD, hk]
    · rw [List.getD_eq_getElem?_getD, List.getElem?_eq_none (by simpa using hk), rot_out (by omega) (by omega) (by omega), List.getD_eq_getElem?_getD, List.getElem?_eq_none (by omega)]
  clear hT
  (have fct := (And.intro @fi @fj); repeat' (first | ((with_reducible apply G.a); exact rfl) | refine G.reg fun K hK => ?_ | (with_reducible (refine hK _ _ ?_); clear hK K) | (have hk := hK; clear hk; simp (disch := first | exact dis | fail) only [push_cast, ↓reduceIte, Nat.reduceAdd, Nat.reduceLeDiff, Nat.reduceEqDiff, Nat.reduceLT, Int.reduceToNat, fct]) | (refine G.cn ?_ ?_ <;> intro hc <;> first | (with_reducible exact False.elim hc) | (exfalso; omega) | skip))) <;> (try clear fct)
  refine G.loop (fun r w' => ∃ (i j : Nat) (cur : List Gs), 0 < i ∧ 0 < j ∧ i ≤ m ∧ m + j ≤ xs.length ∧ cur.Perm xs ∧ At cur T (rotSw (m - i) m (m + j)) ∧ r 0 = v ∧ r 2 = I m ∧ r 4 = (.func (.func 43) #[] #[]) ∧ r 10 = I i ∧ r 11 = I j ∧ Sep w0 w' (accC v 54 eG cur :: M)) (fun r _ => toN (r 10) + toN (r 11)) ?_ ?_
  · exact ⟨i0, j0, xs, by omega, by omega, by omega, by omega, .refl _, by rw [show m - i0 = a from by omega, show m + j0 = b from by omega]; exact hTa, by simp only [push_cast, ↓reduceIte, Nat.reduceAdd, Nat.reduceLeDiff, Nat.reduceEqDiff, Nat.reduceLT, Int.reduceToNat], by simp only [push_cast, ↓reduceIte, Nat.reduceAdd, Nat.reduceLeDiff, Nat.reduceEqDiff, Nat.reduceLT, Int.reduceToNat], by simp only [push_cast, ↓reduceIte, Nat.reduceAdd, Nat.reduceLeDiff, Nat.reduceEqDiff, Nat.reduceLT, Int.reduceToNat], by simp only [push_cast, ↓reduceIte, Nat.reduceAdd, Nat.reduceLeDiff, Nat.reduceEqDiff, Nat.reduceLT, Int.reduceToNat, fi], by simp only [push_cast, ↓reduceIte, Nat.reduceAdd, Nat.reduceLeDiff, Nat.reduceEqDiff, Nat.reduceLT, Int.reduceToNat, fj], hS⟩
  · clear hS
    rintro u wl ⟨i, j, cur, hi, hj, him, hmj, hp, hat, q0, q2, q4, q10, q11, hS⟩ ih
    have hm1 : toN (u 10) = i := by rw [q10]; simp [toN]
    have hm2 : toN (u 11) = j := by rw [q11]; simp [toN]
    have hcl := hp.length_eq
    have hBc := hB.perm hp
    obtain ⟨p, ep⟩ : ∃ p, p = m - i := ⟨_, rfl⟩
    have fp : (m : Int) - (i : Int) = (p : Int) := by omega
    by_cases hne : (i : Int) = j
    · have e : i = j := by omega
      subst e
      have hcc : ∀ {w}, Sep w0 w (accC v 54 eG cur :: M) → _ := fun {w} h => swr_spec (w := w) h hBc p m i (by omega) (by omega)
      (have fct := (And.intro @q0 (And.intro @q2 (And.intro @q4 (And.intro @q10 (And.intro @q11 @fp))))); repeat' (first | ((with_reducible apply G.a); exact rfl) | refine G.reg fun K hK => ?_ | (with_reducible (refine hK _ _ ?_); clear hK K) | (have hk := hK; clear hk; simp (disch := first | exact dis | fail) only [push_cast, ↓reduceIte, Nat.reduceAdd, Nat.reduceLeDiff, Nat.reduceEqDiff, Nat.reduceLT, Int.reduceToNat, fct]) | (refine zco 115 (hcc hS) ?_; rintro vb wb ⟨rfl, ys, hy, hya, hS⟩) | (refine G.cn ?_ ?_ <;> intro hc <;> first | (with_reducible exact False.elim hc) | (exfalso; omega) | skip))) <;> (try clear fct)
      (have fct := (And.intro @q0 (And.intro @q2 (And.intro @q4 (And.intro @q10 @q11)))); (first | refine G.r1 ?_ | refine G.r2 ?_ | refine G.r3 ?_ | refine G.r0 ?_ | refine G.d0 ?_); (try simp (disch := first | exact dis | fail) only [push_cast, ↓reduceIte, Nat.reduceAdd, Nat.reduceLeDiff, Nat.reduceEqDiff, Nat.reduceLT, Int.reduceToNat, fct]); (try clear fct))
      refine ⟨ys, hy.trans hp, ?_, hS⟩
      have := rot_last (by rw [← ep]; rw [← ep] at hat; exact hat) (by rw [← ep]; exact hya) him
      intro k
      rw [← this k]; exact hTa k
    · by_cases hgt : (j : Int) < i
      · have hcc : ∀ {w}, Sep w0 w (accC v 54 eG cur :: M) → _ := fun {w} h => swr_spec (w := w) h hBc p m j (by omega) (by omega)
        obtain ⟨i', ei'⟩ : ∃ i', i' = i - j := ⟨_, rfl⟩
        have fi' : (i : Int) - (j : Int) = (i' : Int) := by omega
        (have fct := (And.intro @q0 (And.intro @q2 (And.intro @q4 (And.intro @q10 (And.intro @q11 (And.intro @fp @fi')))))); repeat' (first | ((with_reducible apply G.a); exact rfl) | refine G.reg fun K hK => ?_ | (with_reducible (refine hK _ _ ?_); clear hK K) | (have hk := hK; clear hk; simp (disch := first | exact dis | fail) only [push_cast, ↓reduceIte, Nat.reduceAdd, Nat.reduceLeDiff, Nat.reduceEqDiff, Nat.reduceLT, Int.reduceToNat, fct]) | (refine zco 115 (hcc hS) ?_; rintro vb wb ⟨rfl, ys, hy, hya, hS⟩) | (refine G.cn ?_ ?_ <;> intro hc <;> first | (with_reducible exact False.elim hc) | (exfalso; omega) | skip))) <;> (try clear fct)
        all_goals
          have fct := (And.intro @q0 (And.intro @q2 (And.intro @q4 (And.intro @q10 (And.intro @q11 @fi'))))); refine ih _ _ ⟨i', j, ys, by omega, by omega, by omega, by omega, hy.trans hp, by rw [ei']; exact rot_big hat (by rw [← ep]; exact hya) (by omega) him, by exact sf, by exact sf, by exact sf, by exact sf, by exact sf, hS⟩ ?_
          rw [hm1, hm2]; simp only [push_cast, ↓reduceIte, Nat.reduceAdd, Nat.reduceLeDiff, Nat.reduceEqDiff, Nat.reduceLT, Int.reduceToNat, toN_i, q0, q2, q4, q10, q11, fi']; omega
      · obtain ⟨q, eq⟩ : ∃ q, q = m + j - i := ⟨_, rfl⟩
        have fq : (m : Int) + (j : Int) - (i : Int) = (q : Int) := by omega
        have hcc : ∀ {w}, Sep w0 w (accC v 54 eG cur :: M) → _ := fun {w} h => swr_spec (w := w) h hBc p q i (by omega) (by omega)
        obtain ⟨j', ej'⟩ : ∃ j', j' = j - i := ⟨_, rfl⟩
        have fj' : (j : Int) - (i : Int) = (j' : Int) := by omega
        (have fct := (And.intro @q0 (And.intro @q2 (And.intro @q4 (And.intro @q10 (And.intro @q11 (And.intro @fp (And.intro @fq @fj'))))))); repeat' (first | ((with_reducible apply G.a); exact rfl) | refine G.reg fun K hK => ?_ | (with_reducible (refine hK _ _ ?_); clear hK K) | (have hk := hK; clear hk; simp (disch := first | exact dis | fail) only [push_cast, ↓reduceIte, Nat.reduceAdd, Nat.reduceLeDiff, Nat.reduceEqDiff, Nat.reduceLT, Int.reduceToNat, fct]) | (refine zco 115 (hcc hS) ?_; rintro vb wb ⟨rfl, ys, hy, hya, hS⟩) | (refine G.cn ?_ ?_ <;> intro hc <;> first | (with_reducible exact False.elim hc) | (exfalso; omega) | skip))) <;> (try clear fct)
        all_goals
          have fct := (And.intro @q0 (And.intro @q2 (And.intro @q4 (And.intro @q10 (And.intro @q11 @fj'))))); refine ih _ _ ⟨i, j', ys, by omega, by omega, by omega, by omega, hy.trans hp, by rw [ej']; exact rot_small hat (by rw [← ep, ← eq]; exact hya) (by omega) him, by exact sf, by exact sf, by exact sf, by exact sf, by exact sf, hS⟩ ?_
          rw [hm1, hm2]; simp only [push_cast, ↓reduceIte, Nat.reduceAdd, Nat.reduceLeDiff, Nat.reduceEqDiff, Nat.reduceLT, Int.reduceToNat, toN_i, q0, q2, q4, q10, q11, fj']; omega
end
end Go.Proofs.Ytigifbjdmdcboaa
