/- Texts of the proof, joined. -/
import Derived.Test.YtjajihaeoolefaaDooryZ25
import Derived.Test.YtjajihaeoolefaaDooryW20
import Derived.Test.YtjajihaeoolefaaDooryW17
namespace Go.Proofs.YtjajihaeoolefaaDoor
set_option linter.unusedSimpArgs false
set_option linter.unusedVariables false
attribute [local irreducible] SemK UnitK StK AlcK BslK CallK CallV Instr.box Builtin.append_ Instr.makeSlice Instr.makeMap Instr.lookup Instr.mapUpdate Instr.sliceAt convert
open Go.RowKit
def frzQ (vs : List (Int × Value × Value)) (cs : List Chg) : Chk where
  ok w F := vs.length = cs.length ∧ ∀ i, i < cs.length → (vs.getD i default).1 = (cs.getD i default).kind ∧ RdF F w eRv (vs.getD i default).2.1 (cs.getD i default).old ∧ RdF F w eRv (vs.getD i default).2.2 (cs.getD i default).new
  loc := fun hb ⟨h1, h2⟩ => ⟨h1, fun i hi => ⟨(h2 i hi).1, (h2 i hi).2.1.loc hb, (h2 i hi).2.2.loc hb⟩⟩
def RdCq (w : World) (v : Value) (cs : List Chg) : Prop :=
  ∃ vs : List (Int × Value × Value), Rd w eCg v vs ∧ vs.length = cs.length ∧ ∀ i, i < vs.length → (vs.getD i default).1 = (cs.getD i default).kind ∧ Rd w eRv (vs.getD i default).2.1 (cs.getD i default).old ∧ Rd w eRv (vs.getD i default).2.2 (cs.getD i default).new
theorem RdCq.ext {w w' : World} {v : Value} {cs : List Chg} (h : RdCq w v cs) (hx : Ext w w') : RdCq w' v cs := by
  obtain ⟨vs, h1, h2, h3⟩ := h
  exact ⟨vs, h1.ext hx, h2, fun i hi => ⟨(h3 i hi).1, (h3 i hi).2.1.ext hx, (h3 i hi).2.2.ext hx⟩⟩
section
variable {w w' w0 : World} {L M N R : List Chk} {vs : List (Int × Value × Value)} {cs : List Chg} {a b v : Value} {old new : List Val} {t u : TypeId} {k : Int}
theorem Sep.frzQ0 (hS : Sep w0 w L) : Sep w0 w (frzQ [] [] :: L) := hS.push (Ext.refl w) (F := fun _ => False) ⟨rfl, fun i hi => by simp at hi⟩ (fun _ h => h.elim)
theorem Sep.frzQTwo (hS : Sep w0 w L) (h1 : Ex (accC a t eRv old) L M) (h2 : Ex (accC b u eRv new) M N) (h3 : Ex (frzQ vs cs) N R) : Sep w0 w (frzQ (vs ++ [(k, a, b)]) (cs ++ [⟨k, old, new⟩]) :: R) := by
  obtain ⟨F, f1, f2, f3⟩ := SepL.take h1 hS.2
  obtain ⟨E, e1, e2, e3⟩ := SepL.take h2 f3
  obtain ⟨G, g1, g2, g3⟩ := SepL.take h3 e3
  refine ⟨hS.1, fun b => (F b ∨ E b) ∨ G b, ?_, fun b hb => ?_, SepL.mono g3 ?_⟩
  · obtain ⟨hl, hr⟩ := g1
    refine ⟨by simp [hl], fun i hi => ?_⟩
    simp only [List.length_append, List.length_cons, List.length_nil] at hi
    by_cases hlt : i < cs.length
    · rw [getD_snoc_lt _ _ _ _ (by omega), getD_snoc_lt _ _ _ _ hlt]
      exact ⟨(hr i hlt).1, (hr i hlt).2.1.mono fun b h => .inr h, (hr i hlt).2.2.mono fun b h => .inr h⟩
    · have : i = cs.length := by omega
      subst this
      rw [getD_snoc_eq, ← hl, getD_snoc_eq]
      exact ⟨rfl, (acc_rdF f1).mono fun b h => .inl (.inl h), (acc_rdF e1).mono fun b h => .inl (.inr h)⟩
  · rcases hb with (hb | hb) | hb
    · exact ⟨(f2 b hb).1, (f2 b hb).2.1, id⟩
    · exact ⟨(e2 b hb).1, (e2 b hb).2.1, id⟩
    · exact ⟨(g2 b hb).1, (g2 b hb).2.1, id⟩
  · rintro b (h | (h | h) | h)
    · exact h.elim
    · exact .inl (.inl (.inr h))
    · exact .inl (.inr h)
    · exact .inr h
theorem Sep.frzQLen (hS : Sep w0 w L) (h : Ex (frzQ vs cs) L R) : vs.length = cs.length := by
  obtain ⟨F, h1, _⟩ := hS.get h
  exact h1.1
theorem Sep.rdCq (hS : Sep w0 w L) (h1 : Ex (accC v u eCg vs) L M) (h2 : Ex (frzQ vs cs) L R) : RdCq w v cs := by
  obtain ⟨F, f1, f2⟩ := hS.get h2
  exact ⟨vs, hS.rd h1, f1.1, fun i hi => by have := f1.2 i (f1.1 ▸ hi); exact ⟨this.1, this.2.1.1, this.2.2.1⟩⟩
end
def oneB (x y : Chg) : Bool := decide (x.kind = y.kind) && (decide (x.old = y.old) && decide (x.new = y.new))
def c39 : MC := (.seq (.reg [qq 2 (.raw (.box 108 (.tmp 0)) 0), qq 3 (.raw (.box 108 (.tmp 1)) 0), qq 4 (.mv (kb false))]) (.seq (.reg [qq 5 (.fad 0 (.tmp 2)), qq 6 (.ld none (.tmp 5)), qq 7 (.fad 0 (.tmp 3)), qq 8 (.ld none (.tmp 7)), qq 9 (.bin .eql (.tmp 6) (.tmp 8)), qm 10 9, qt 10 11 (.fad 1 (.tmp 2)), qt 10 12 (.ld none (.tmp 11)), qt 10 13 (.fad 1 (.tmp 3)), qt 10 14 (.ld none (.tmp 13)), qt 10 15 (.call 49 [(.tmp 12), (.tmp 14)]), qq 16 (.pick (.tmp 10) (.tmp 15) (kb false)), qm 17 16, qt 17 18 (.fad 2 (.tmp 2)), qt 17 19 (.ld none (.tmp 18)), qt 17 20 (.fad 2 (.tmp 3)), qt 17 21 (.ld none (.tmp 20)), qt 17 22 (.call 49 [(.tmp 19), (.tmp 21)]), qq 23 (.pick (.tmp 17) (.tmp 22) (kb false)), qm 4 23]) .ret))
theorem k39 : conv Tryd.prog 24 (Tryd.f39.body.getD .skip) = c39 := by kernel_rfl
theorem in39 {a0 a1 : Value} {w : World} {R : Value → World → Prop} (h : G Tryd.prog Tryd.f39 24 [.c c39] R (frL 0 [a0, a1]) w) : Ret Tryd.prog 39 #[a0, a1] w R := G.enter (args := [a0, a1]) Tryd.func39 (c := Tryd.f39.body.getD .skip) (by kernel_rfl) (by kernel_rfl) (by simp) k39 h
theorem one25_spec {x y : Chg} {a1 b1 a2 b2 : Value} {w : World} (ha : Rd w eRv a1 x.old) (hb : Rd w eRv b1 x.new) (hc2 : Rd w eRv a2 y.old) (hd : Rd w eRv b2 y.new) : Pu Tryd.prog 39 #[.agg #[I x.kind, a1, b1], .agg #[I y.kind, a2, b2]] w (.bool (oneB x y)) := by
  refine in39 ?_
  have hS := Sep.start w
  have o1 := ha.one
  have o2 := hb.one
  have o3 := hc2.one
  have o4 := hd.one
  have hq1 := fun (w2 : World) (hx : Ext w w2) => same20_spec (w := w2) (ha.ext hx) (hc2.ext hx)
  have hq2 := fun (w2 : World) (hx : Ext w w2) => same20_spec (w := w2) (hb.ext hx) (hd.ext hx)
  unfold oneB
  by_cases hk : x.kind = y.kind
  · cases h1 : decide (x.old = y.old)
    all_goals
      rw [h1] at hq1
      cases h2 : decide (x.new = y.new)
      all_goals
        rw [h2] at hq2
        (have fct := @hk; repeat' (first | ((with_reducible apply G.a); exact rfl) | refine G.reg fun K hK => ?_ | (with_reducible (refine hK _ _ ?_); clear hK K) | (have hk := hK; clear hk; simp (disch := first | exact dis | fail) only [push_cast, ↓reduceIte, Nat.reduceAdd, Nat.reduceLeDiff, Nat.reduceEqDiff, Nat.reduceLT, Int.reduceToNat, fct]) | (refine brO_n ?_ ?_ <;> intro hb hc <;> first | (with_reducible exact False.elim hc) | (exfalso; omega) | (simp only [hb]; clear hb)) | (((with_reducible refine gBox ?_); refine zbox ?_); intro gb wb hS) | ((with_reducible (show CallK _ 49 [a1, a2] _ _ _ _)); refine zcp 49 (hq1 _ hS.x) ?_; intro wb hS) | ((with_reducible (show CallK _ 49 [b1, b2] _ _ _ _)); refine zcp 49 (hq2 _ hS.x) ?_; intro wb hS))) <;> (try clear fct)
        all_goals
          (first | refine G.r1 ?_ | refine G.r2 ?_ | refine G.r3 ?_ | refine G.r0 ?_ | refine G.d0 ?_); (try simp (disch := first | exact dis | fail) only [push_cast, ↓reduceIte, Nat.reduceAdd, Nat.reduceLeDiff, Nat.reduceEqDiff, Nat.reduceLT, Int.reduceToNat, fct])
          first
            | exact Sep.xt (by assumption)
            | (refine ⟨?_, Sep.xt (by assumption)⟩; simp [hk]; done)
  · repeat' (first | ((with_reducible apply G.a); exact rfl) | refine G.reg fun K hK => ?_ | (with_reducible (refine hK _ _ ?_); clear hK K) | (have hk := hK; clear hk; simp (disch := first | exact dis | fail) only [push_cast, ↓reduceIte, Nat.reduceAdd, Nat.reduceLeDiff, Nat.reduceEqDiff, Nat.reduceLT, Int.reduceToNat, fct]) | (refine brO_n ?_ ?_ <;> intro hb hc <;> first | (with_reducible exact False.elim hc) | (exfalso; omega) | (simp only [hb]; clear hb)) | (((with_reducible refine gBox ?_); refine zbox ?_); intro gb wb hS) | ((with_reducible (show CallK _ 49 [a1, a2] _ _ _ _)); refine zcp 49 (hq1 _ hS.x) ?_; intro wb hS) | ((with_reducible (show CallK _ 49 [b1, b2] _ _ _ _)); refine zcp 49 (hq2 _ hS.x) ?_; intro wb hS))
    all_goals
      (first | refine G.r1 ?_ | refine G.r2 ?_ | refine G.r3 ?_ | refine G.r0 ?_ | refine G.d0 ?_); (try simp (disch := first | exact dis | fail) only [push_cast, ↓reduceIte, Nat.reduceAdd, Nat.reduceLeDiff, Nat.reduceEqDiff, Nat.reduceLT, Int.reduceToNat, fct])
      first
        | exact Sep.xt (by assumption)
        | (refine ⟨?_, Sep.xt (by assumption)⟩; simp [hk]; done)
end Go.Proofs.YtjajihaeoolefaaDoor
namespace Go.Proofs.YtjajihaeoolefaaDoor
set_option linter.unusedSimpArgs false
set_option linter.unusedVariables false
attribute [local irreducible] SemK UnitK StK AlcK BslK CallK CallV Instr.box Builtin.append_ Instr.makeSlice Instr.makeMap Instr.lookup Instr.mapUpdate Instr.sliceAt convert
open Go.RowKit
theorem oneB_self (x : Chg) : oneB x x = true := by simp [oneB]
theorem any_take (p : Chg → Bool) (l : List Chg) (k : Nat) (h : (k : Int) < l.length) : (l.take (k + 1)).any p = ((l.take k).any p || p (l.getD k default)) := by
  rw [takeD l k h, List.any_append]
  simp
def c14l1 : MC := (.seq (.reg [qq 19 (.bin .lss (.tmp 18) (.tmp 17))]) (.seq (.cond (.tmp 19) .skip (.exit 2)) (.seq (.blk 3 (.seq (.reg [qq 20 (.adr 3 (.tmp 16) (.tmp 18)), qq 21 (.ld (.some 3) (.tmp 20)), qq 9 (.alc 108 [(.int .i64 0), (.slice none 0 0), (.slice none 0 0)]), qn (.st 3 (.tmp 9) (.tmp 21))]) (.reg [qm 22 7, qm 23 22, qf 23 24 (.ld (.some 3) (.tmp 6)), qf 23 25 (.ld (.some 3) (.tmp 9)), qf 23 26 (.call 39 [(.tmp 24), (.tmp 25)]), qq 27 (.pick (.tmp 23) (kb true) (.tmp 26)), qm 7 27]))) (.reg [qq 28 (.bin .add (.tmp 18) (ki 1)), qm 18 28]))))
def c14l2 : MC := (.seq (.reg [qq 13 (.bin .lss (.tmp 12) (.tmp 11))]) (.seq (.cond (.tmp 13) .skip (.exit 0)) (.seq (.blk 1 (.seq (.reg [qq 14 (.adr 3 (.tmp 10) (.tmp 12)), qq 15 (.ld (.some 3) (.tmp 14)), qq 6 (.alc 108 [(.int .i64 0), (.slice none 0 0), (.slice none 0 0)]), qn (.st 3 (.tmp 6) (.tmp 15))]) (.seq (.reg [qq 7 (.mv (kb false))]) (.seq (.seq (.reg [qm 16 1, qq 17 (.len (.tmp 16)), qq 18 (.mv (ki 0))]) (.blk 2 (.loop c14l1))) (.seq (.reg [qm 29 7, qq 30 (.un .not (.tmp 29))]) (.cond (.tmp 30) (.seq (.reg [qq 4 (.mv (kb false))]) .ret) .skip)))))) (.reg [qq 31 (.bin .add (.tmp 12) (ki 1)), qm 12 31]))))
def c14 : MC := (.seq (.reg [qq 4 (.mv (kb false))]) (.seq (.seq (.reg [qm 10 0, qq 11 (.len (.tmp 10)), qq 12 (.mv (ki 0))]) (.blk 0 (.loop c14l2))) (.seq (.reg [qq 4 (.mv (kb true))]) .ret)))
theorem k14 : conv Tryd.prog 32 (Tryd.f14.body.getD .skip) = c14 := by kernel_rfl
theorem in14 {a0 a1 : Value} {w : World} {R : Value → World → Prop} (h : G Tryd.prog Tryd.f14 32 [.c c14] R (frL 0 [a0, a1]) w) : Ret Tryd.prog 14 #[a0, a1] w R := G.enter (args := [a0, a1]) Tryd.func14 (c := Tryd.f14.body.getD .skip) (by kernel_rfl) (by kernel_rfl) (by simp) k14 h
theorem within_spec {va vb : Value} {A B : List Chg} {w : World} (ha : RdCq w va A) (hb : RdCq w vb B) (hin : ∀ a ∈ A, a ∈ B) (hla : A.length ≤ 1000000) (hlb : B.length ≤ 1000000) : Pu Tryd.prog 14 #[va, vb] w (.bool true) := by
  refine in14 ?_
  have hS := Sep.start w
  obtain ⟨us, g1, l1, i1⟩ := ha
  obtain ⟨vs, g2, l2, i2⟩ := hb
  have hbd1 := g1.bd
  have hbd2 := g2.bd
  repeat' (first | ((with_reducible apply G.a); exact rfl) | refine G.reg fun K hK => ?_ | (with_reducible (refine hK _ _ ?_); clear hK K) | (have hk := hK; clear hk; simp (disch := first | exact dis | fail) only [push_cast, ↓reduceIte, Nat.reduceAdd, Nat.reduceLeDiff, Nat.reduceEqDiff, Nat.reduceLT, Int.reduceToNat, fct]) | (refine brO_n ?_ ?_ <;> intro hb hc <;> first | (with_reducible exact False.elim hc) | (exfalso; omega) | (simp only [hb]; clear hb)) | (refine zalc ?_; intro gb wb hS) | ((with_reducible refine gSt ?_); refine zs2 ?_; intro wb hS) | (refine G.cn ?_ ?_ <;> intro hc <;> first | (with_reducible exact False.elim hc) | (exfalso; omega) | skip))
  all_goals
  refine G.loop (fun r w' => ∃ k : Nat, k ≤ us.length ∧ r 12 = I k ∧ r 11 = I us.length ∧ r 10 = va ∧ r 1 = vb ∧ Sep w w' []) (fun r _ => us.length - toN (r 12)) ?_ ?_
  · exact ⟨0, Nat.zero_le _, by exact sf, by exact sf, by exact sf, by exact sf, hS⟩
  · clear hS
    rintro u wl ⟨k, hk, q12, q11, q10, q1, hS⟩ ih
    have hm : toN (u 12) = k := by rw [q12]; simp [toN]
    have h1k := g1.ext hS.x
    have h2k := g2.ext hS.x
    by_cases hlt : (k : Int) < us.length
    · obtain ⟨y1, y2, y3⟩ := i1 k (by omega)
      have hmem := hin _ (getD_mem A k (by omega))
      generalize A.getD k default = a at y1 y2 y3 hmem
      generalize hx : us.getD k default = x at *
      obtain ⟨xk, xo, xn⟩ := x
      simp only [] at y1 y2 y3
      subst y1
      have o1 := y2.one
      have o2 := y3.one
      (have fct := (And.intro @q12 (And.intro @q11 (And.intro @q10 (And.intro @q1 @hx)))); repeat' (first | ((with_reducible apply G.a); exact rfl) | refine G.reg fun K hK => ?_ | (with_reducible (refine hK _ _ ?_); clear hK K) | (have hk := hK; clear hk; simp (disch := first | exact dis | fail) only [push_cast, ↓reduceIte, Nat.reduceAdd, Nat.reduceLeDiff, Nat.reduceEqDiff, Nat.reduceLT, Int.reduceToNat, fct]) | (refine brO_n ?_ ?_ <;> intro hb hc <;> first | (with_reducible exact False.elim hc) | (exfalso; omega) | (simp only [hb]; clear hb)) | (refine zalc ?_; intro gb wb hS) | ((with_reducible refine gSt ?_); refine zs2 ?_; intro wb hS) | (refine G.cn ?_ ?_ <;> intro hc <;> first | (with_reducible exact False.elim hc) | (exfalso; omega) | skip))) <;> (try clear fct)
      all_goals
      refine G.loop (fun r w' => ∃ (j : Nat) (g : Nat), j ≤ vs.length ∧ r 18 = I j ∧ r 17 = I vs.length ∧ r 16 = vb ∧ r 7 = .bool ((B.take j).any (oneB a)) ∧ r 6 = .pointer (some ⟨g, 0, none⟩) ∧ r 12 = I k ∧ r 11 = I us.length ∧ r 10 = va ∧ r 1 = vb ∧ Sep w w' [boxC g 108 [I a.kind, xo, xn]]) (fun r _ => vs.length - toN (r 18)) ?_ ?_
      · have fct := (And.intro @q12 (And.intro @q11 (And.intro @q10 @q1))); exact ⟨0, _, Nat.zero_le _, by exact sf, by exact sf, by exact sf, by exact sf, by exact sf, by exact sf, by exact sf, by exact sf, by exact sf, hS⟩
      · clear hS q12 q11 q10 q1 h1k h2k
        rintro u2 wl2 ⟨j, g, hj, q18, q17, q16, q7, q6, q12, q11, q10, q1, hS⟩ ih2
        have hm2 : toN (u2 18) = j := by rw [q18]; simp [toN]
        have h2k := g2.ext hS.x
        by_cases hlj : (j : Int) < vs.length
        · have hst := any_take (oneB a) B j (by omega)
          obtain ⟨z1, z2, z3⟩ := i2 j (by omega)
          generalize B.getD j default = b at z1 z2 z3 hst
          generalize hy : vs.getD j default = y at *
          obtain ⟨yk, yo, yn⟩ := y
          simp only [] at z1 z2 z3
          subst z1
          have o3 := z2.one
          have o4 := z3.one
          have hone := fun (w2 : World) (hx : Ext w w2) => one25_spec (w := w2) (x := b) (y := a) (z2.ext hx) (z3.ext hx) (y2.ext hx) (y3.ext hx)
          have hone' := fun (w2 : World) (hx : Ext w w2) => one25_spec (w := w2) (x := a) (y := b) (y2.ext hx) (y3.ext hx) (z2.ext hx) (z3.ext hx)
          generalize hq : (B.take j).any (oneB a) = q at *
          cases q
          all_goals
            (have fct := (And.intro @q18 (And.intro @q17 (And.intro @q16 (And.intro @q7 (And.intro @q6 (And.intro @q12 (And.intro @q11 (And.intro @q10 (And.intro @q1 @hy))))))))); repeat' (first | ((with_reducible apply G.a); exact rfl) | refine G.reg fun K hK => ?_ | (with_reducible (refine hK _ _ ?_); clear hK K) | (have hk := hK; clear hk; simp (disch := first | exact dis | fail) only [push_cast, ↓reduceIte, Nat.reduceAdd, Nat.reduceLeDiff, Nat.reduceEqDiff, Nat.reduceLT, Int.reduceToNat, fct]) | (refine brO_n ?_ ?_ <;> intro hb hc <;> first | (with_reducible exact False.elim hc) | (exfalso; omega) | (simp only [hb]; clear hb)) | (refine zalc ?_; intro gb wb hS) | ((with_reducible refine gSt ?_); refine zs2 ?_; intro wb hS) | ((with_reducible (show CallK _ 39 [.agg #[I a.kind, xo, xn], .agg #[I b.kind, yo, yn]] _ _ _ _)); refine zcp 39 (hone' _ hS.x) ?_; intro wb hS) | (refine G.cn ?_ ?_ <;> intro hc <;> first | (with_reducible exact False.elim hc) | (exfalso; omega) | skip))) <;> (try clear fct)
            all_goals
              have fct := (And.intro @q18 (And.intro @q17 (And.intro @q16 (And.intro @q7 (And.intro @q6 (And.intro @q12 (And.intro @q11 (And.intro @q10 @q1)))))))); refine ih2 _ _ ⟨j + 1, g, by omega, by exact sf, by exact sf, by exact sf, by rw [hst]; simp only [push_cast, ↓reduceIte, Nat.reduceAdd, Nat.reduceLeDiff, Nat.reduceEqDiff, Nat.reduceLT, Int.reduceToNat, q18, q17, q16, q7, q6, q12, q11, q10, q1, Bool.true_or, Bool.false_or], by exact sf, by exact sf, by exact sf, by exact sf, by exact sf, (Sep.sub hS (by repeat first | exact Sub.rfl' | exact Sub.nil0 | (refine Sub.c (by repeat constructor) ?_) | refine Sub.skip ?_))⟩ ?_
              rw [hm2]; simp only [push_cast, ↓reduceIte, Nat.reduceAdd, Nat.reduceLeDiff, Nat.reduceEqDiff, Nat.reduceLT, Int.reduceToNat, toN_i, q18, q17, q16, q7, q6, q12, q11, q10, q1]; omega
        · rw [List.take_of_length_le (by omega), List.any_eq_true.2 ⟨a, hmem, oneB_self a⟩] at q7
          (have fct := (And.intro @q18 (And.intro @q17 (And.intro @q16 (And.intro @q7 (And.intro @q6 (And.intro @q12 (And.intro @q11 (And.intro @q10 @q1)))))))); repeat' (first | ((with_reducible apply G.a); exact rfl) | refine G.reg fun K hK => ?_ | (with_reducible (refine hK _ _ ?_); clear hK K) | (have hk := hK; clear hk; simp (disch := first | exact dis | fail) only [push_cast, ↓reduceIte, Nat.reduceAdd, Nat.reduceLeDiff, Nat.reduceEqDiff, Nat.reduceLT, Int.reduceToNat, fct]) | (refine brO_n ?_ ?_ <;> intro hb hc <;> first | (with_reducible exact False.elim hc) | (exfalso; omega) | (simp only [hb]; clear hb)) | (refine zalc ?_; intro gb wb hS) | ((with_reducible refine gSt ?_); refine zs2 ?_; intro wb hS) | (refine G.cn ?_ ?_ <;> intro hc <;> first | (with_reducible exact False.elim hc) | (exfalso; omega) | skip))) <;> (try clear fct)
          all_goals
            have fct := (And.intro @q18 (And.intro @q17 (And.intro @q16 (And.intro @q7 (And.intro @q6 (And.intro @q12 (And.intro @q11 (And.intro @q10 @q1)))))))); refine ih _ _ ⟨k + 1, by omega, by exact sf, by exact sf, by exact sf, by exact sf, (Sep.sub hS (by repeat first | exact Sub.rfl' | exact Sub.nil0 | (refine Sub.c (by repeat constructor) ?_) | refine Sub.skip ?_))⟩ ?_
            rw [hm]; simp only [push_cast, ↓reduceIte, Nat.reduceAdd, Nat.reduceLeDiff, Nat.reduceEqDiff, Nat.reduceLT, Int.reduceToNat, toN_i, q18, q17, q16, q7, q6, q12, q11, q10, q1]; omega
    · (have fct := (And.intro @q12 (And.intro @q11 (And.intro @q10 @q1))); repeat' (first | ((with_reducible apply G.a); exact rfl) | refine G.reg fun K hK => ?_ | (with_reducible (refine hK _ _ ?_); clear hK K) | (have hk := hK; clear hk; simp (disch := first | exact dis | fail) only [push_cast, ↓reduceIte, Nat.reduceAdd, Nat.reduceLeDiff, Nat.reduceEqDiff, Nat.reduceLT, Int.reduceToNat, fct]) | (refine brO_n ?_ ?_ <;> intro hb hc <;> first | (with_reducible exact False.elim hc) | (exfalso; omega) | (simp only [hb]; clear hb)) | (refine zalc ?_; intro gb wb hS) | ((with_reducible refine gSt ?_); refine zs2 ?_; intro wb hS) | (refine G.cn ?_ ?_ <;> intro hc <;> first | (with_reducible exact False.elim hc) | (exfalso; omega) | skip))) <;> (try clear fct)
      all_goals
        (have fct := (And.intro @q12 (And.intro @q11 (And.intro @q10 @q1))); (first | refine G.r1 ?_ | refine G.r2 ?_ | refine G.r3 ?_ | refine G.r0 ?_ | refine G.d0 ?_); (try simp (disch := first | exact dis | fail) only [push_cast, ↓reduceIte, Nat.reduceAdd, Nat.reduceLeDiff, Nat.reduceEqDiff, Nat.reduceLT, Int.reduceToNat, fct]); (try clear fct))
        (first | exact Sep.xt (by assumption) | exact ⟨rfl, Sep.xt (by assumption)⟩)
def c15l1 : MC := (.seq (.reg [qq 9 (.bin .lss (.tmp 8) (.tmp 7))]) (.seq (.cond (.tmp 9) .skip (.exit 0)) (.seq (.blk 1 (.seq (.reg [qq 10 (.adr 3 (.tmp 6) (.tmp 8)), qq 11 (.ld (.some 3) (.tmp 10)), qq 5 (.alc 34 [(.int .i64 0), (.slice none 0 0), (.slice none 0 0)]), qn (.st 3 (.tmp 5) (.tmp 11))]) (.drg [qm 12 3, qq 13 (.fad 0 (.tmp 5)), qq 14 (.ld none (.tmp 13)), qq 15 (.fad 1 (.tmp 5)), qq 16 (.ld none (.tmp 15)), qq 17 (.call 40 [(.tmp 16)]), qq 18 (.fad 2 (.tmp 5)), qq 19 (.ld none (.tmp 18)), qq 20 (.call 40 [(.tmp 19)]), qq 21 (.bld [(.int .i64 0), (.slice none 0 0), (.slice none 0 0)] [⟨0, ⟨1, (.tmp 14)⟩⟩, ⟨1, ⟨1, (.tmp 17)⟩⟩, ⟨2, ⟨1, (.tmp 20)⟩⟩]), qq 22 (.bsl 108 [(.int .i64 0), (.slice none 0 0), (.slice none 0 0)] 1 [⟨0, ⟨3, (.tmp 21)⟩⟩]), qq 23 (.raw (.call ⟨(.builtin .append), #[(.tmp 12), (.tmp 22)], #[54, 54]⟩) 54), qm 3 23] (.some (.br [qm 12 3, qq 13 (.fad 0 (.tmp 5)), qq 15 (.fad 1 (.tmp 5)), qq 18 (.fad 2 (.tmp 5))] (.br [qq 14 (.ld none (.tmp 13))] (.br [qq 16 (.ld none (.tmp 15))] (.leaf [qq 17 (.call 40 [(.tmp 16)]), qq 19 (.ld none (.tmp 18)), qq 20 (.call 40 [(.tmp 19)]), qq 21 (.bld [(.int .i64 0), (.slice none 0 0), (.slice none 0 0)] [⟨0, ⟨1, (.tmp 14)⟩⟩, ⟨1, ⟨1, (.tmp 17)⟩⟩, ⟨2, ⟨1, (.tmp 20)⟩⟩]), qq 22 (.bsl 108 [(.int .i64 0), (.slice none 0 0), (.slice none 0 0)] 1 [⟨0, ⟨3, (.tmp 21)⟩⟩]), qq 23 (.raw (.call ⟨(.builtin .append), #[(.tmp 12), (.tmp 22)], #[54, 54]⟩) 54), qm 3 23]) (.leaf [qq 19 (.ld none (.tmp 18)), qq 17 (.call 40 [(.tmp 16)]), qq 20 (.call 40 [(.tmp 19)]), qq 21 (.bld [(.int .i64 0), (.slice none 0 0), (.slice none 0 0)] [⟨0, ⟨1, (.tmp 14)⟩⟩, ⟨1, ⟨1, (.tmp 17)⟩⟩, ⟨2, ⟨1, (.tmp 20)⟩⟩]), qq 22 (.bsl 108 [(.int .i64 0), (.slice none 0 0), (.slice none 0 0)] 1 [⟨0, ⟨3, (.tmp 21)⟩⟩]), qq 23 (.raw (.call ⟨(.builtin .append), #[(.tmp 12), (.tmp 22)], #[54, 54]⟩) 54), qm 3 23])) (.leaf [qq 19 (.ld none (.tmp 18)), qq 16 (.ld none (.tmp 15)), qq 17 (.call 40 [(.tmp 16)]), qq 20 (.call 40 [(.tmp 19)]), qq 21 (.bld [(.int .i64 0), (.slice none 0 0), (.slice none 0 0)] [⟨0, ⟨1, (.tmp 14)⟩⟩, ⟨1, ⟨1, (.tmp 17)⟩⟩, ⟨2, ⟨1, (.tmp 20)⟩⟩]), qq 22 (.bsl 108 [(.int .i64 0), (.slice none 0 0), (.slice none 0 0)] 1 [⟨0, ⟨3, (.tmp 21)⟩⟩]), qq 23 (.raw (.call ⟨(.builtin .append), #[(.tmp 12), (.tmp 22)], #[54, 54]⟩) 54), qm 3 23])) (.br [] (.br [qq 16 (.ld none (.tmp 15))] (.br [qq 14 (.ld none (.tmp 13))] (.leaf [qq 17 (.call 40 [(.tmp 16)]), qq 19 (.ld none (.tmp 18)), qq 20 (.call 40 [(.tmp 19)]), qq 21 (.bld [(.int .i64 0), (.slice none 0 0), (.slice none 0 0)] [⟨0, ⟨1, (.tmp 14)⟩⟩, ⟨1, ⟨1, (.tmp 17)⟩⟩, ⟨2, ⟨1, (.tmp 20)⟩⟩]), qq 22 (.bsl 108 [(.int .i64 0), (.slice none 0 0), (.slice none 0 0)] 1 [⟨0, ⟨3, (.tmp 21)⟩⟩]), qq 23 (.raw (.call ⟨(.builtin .append), #[(.tmp 12), (.tmp 22)], #[54, 54]⟩) 54), qm 3 23]) (.leaf [qq 19 (.ld none (.tmp 18)), qq 17 (.call 40 [(.tmp 16)]), qq 20 (.call 40 [(.tmp 19)]), qq 21 (.bld [(.int .i64 0), (.slice none 0 0), (.slice none 0 0)] [⟨0, ⟨1, (.tmp 14)⟩⟩, ⟨1, ⟨1, (.tmp 17)⟩⟩, ⟨2, ⟨1, (.tmp 20)⟩⟩]), qq 22 (.bsl 108 [(.int .i64 0), (.slice none 0 0), (.slice none 0 0)] 1 [⟨0, ⟨3, (.tmp 21)⟩⟩]), qq 23 (.raw (.call ⟨(.builtin .append), #[(.tmp 12), (.tmp 22)], #[54, 54]⟩) 54), qm 3 23])) (.br [] (.br [qq 17 (.call 40 [(.tmp 16)])] (.leaf [qq 14 (.ld none (.tmp 13)), qq 19 (.ld none (.tmp 18)), qq 20 (.call 40 [(.tmp 19)]), qq 21 (.bld [(.int .i64 0), (.slice none 0 0), (.slice none 0 0)] [⟨0, ⟨1, (.tmp 14)⟩⟩, ⟨1, ⟨1, (.tmp 17)⟩⟩, ⟨2, ⟨1, (.tmp 20)⟩⟩]), qq 22 (.bsl 108 [(.int .i64 0), (.slice none 0 0), (.slice none 0 0)] 1 [⟨0, ⟨3, (.tmp 21)⟩⟩]), qq 23 (.raw (.call ⟨(.builtin .append), #[(.tmp 12), (.tmp 22)], #[54, 54]⟩) 54), qm 3 23]) (.br [qq 19 (.ld none (.tmp 18))] (.leaf [qq 14 (.ld none (.tmp 13)), qq 20 (.call 40 [(.tmp 19)]), qq 21 (.bld [(.int .i64 0), (.slice none 0 0), (.slice none 0 0)] [⟨0, ⟨1, (.tmp 14)⟩⟩, ⟨1, ⟨1, (.tmp 17)⟩⟩, ⟨2, ⟨1, (.tmp 20)⟩⟩]), qq 22 (.bsl 108 [(.int .i64 0), (.slice none 0 0), (.slice none 0 0)] 1 [⟨0, ⟨3, (.tmp 21)⟩⟩]), qq 23 (.raw (.call ⟨(.builtin .append), #[(.tmp 12), (.tmp 22)], #[54, 54]⟩) 54), qm 3 23]) (.leaf [qq 20 (.call 40 [(.tmp 19)]), qq 14 (.ld none (.tmp 13)), qq 21 (.bld [(.int .i64 0), (.slice none 0 0), (.slice none 0 0)] [⟨0, ⟨1, (.tmp 14)⟩⟩, ⟨1, ⟨1, (.tmp 17)⟩⟩, ⟨2, ⟨1, (.tmp 20)⟩⟩]), qq 22 (.bsl 108 [(.int .i64 0), (.slice none 0 0), (.slice none 0 0)] 1 [⟨0, ⟨3, (.tmp 21)⟩⟩]), qq 23 (.raw (.call ⟨(.builtin .append), #[(.tmp 12), (.tmp 22)], #[54, 54]⟩) 54), qm 3 23]))) (.br [qq 19 (.ld none (.tmp 18))] (.leaf [qq 14 (.ld none (.tmp 13)), qq 17 (.call 40 [(.tmp 16)]), qq 20 (.call 40 [(.tmp 19)]), qq 21 (.bld [(.int .i64 0), (.slice none 0 0), (.slice none 0 0)] [⟨0, ⟨1, (.tmp 14)⟩⟩, ⟨1, ⟨1, (.tmp 17)⟩⟩, ⟨2, ⟨1, (.tmp 20)⟩⟩]), qq 22 (.bsl 108 [(.int .i64 0), (.slice none 0 0), (.slice none 0 0)] 1 [⟨0, ⟨3, (.tmp 21)⟩⟩]), qq 23 (.raw (.call ⟨(.builtin .append), #[(.tmp 12), (.tmp 22)], #[54, 54]⟩) 54), qm 3 23]) (.br [qq 17 (.call 40 [(.tmp 16)])] (.leaf [qq 14 (.ld none (.tmp 13)), qq 20 (.call 40 [(.tmp 19)]), qq 21 (.bld [(.int .i64 0), (.slice none 0 0), (.slice none 0 0)] [⟨0, ⟨1, (.tmp 14)⟩⟩, ⟨1, ⟨1, (.tmp 17)⟩⟩, ⟨2, ⟨1, (.tmp 20)⟩⟩]), qq 22 (.bsl 108 [(.int .i64 0), (.slice none 0 0), (.slice none 0 0)] 1 [⟨0, ⟨3, (.tmp 21)⟩⟩]), qq 23 (.raw (.call ⟨(.builtin .append), #[(.tmp 12), (.tmp 22)], #[54, 54]⟩) 54), qm 3 23]) (.leaf [qq 20 (.call 40 [(.tmp 19)]), qq 14 (.ld none (.tmp 13)), qq 21 (.bld [(.int .i64 0), (.slice none 0 0), (.slice none 0 0)] [⟨0, ⟨1, (.tmp 14)⟩⟩, ⟨1, ⟨1, (.tmp 17)⟩⟩, ⟨2, ⟨1, (.tmp 20)⟩⟩]), qq 22 (.bsl 108 [(.int .i64 0), (.slice none 0 0), (.slice none 0 0)] 1 [⟨0, ⟨3, (.tmp 21)⟩⟩]), qq 23 (.raw (.call ⟨(.builtin .append), #[(.tmp 12), (.tmp 22)], #[54, 54]⟩) 54), qm 3 23]))))) (.br [qq 19 (.ld none (.tmp 18))] (.leaf [qq 14 (.ld none (.tmp 13)), qq 16 (.ld none (.tmp 15)), qq 17 (.call 40 [(.tmp 16)]), qq 20 (.call 40 [(.tmp 19)]), qq 21 (.bld [(.int .i64 0), (.slice none 0 0), (.slice none 0 0)] [⟨0, ⟨1, (.tmp 14)⟩⟩, ⟨1, ⟨1, (.tmp 17)⟩⟩, ⟨2, ⟨1, (.tmp 20)⟩⟩]), qq 22 (.bsl 108 [(.int .i64 0), (.slice none 0 0), (.slice none 0 0)] 1 [⟨0, ⟨3, (.tmp 21)⟩⟩]), qq 23 (.raw (.call ⟨(.builtin .append), #[(.tmp 12), (.tmp 22)], #[54, 54]⟩) 54), qm 3 23]) (.br [qq 16 (.ld none (.tmp 15))] (.leaf [qq 14 (.ld none (.tmp 13)), qq 17 (.call 40 [(.tmp 16)]), qq 20 (.call 40 [(.tmp 19)]), qq 21 (.bld [(.int .i64 0), (.slice none 0 0), (.slice none 0 0)] [⟨0, ⟨1, (.tmp 14)⟩⟩, ⟨1, ⟨1, (.tmp 17)⟩⟩, ⟨2, ⟨1, (.tmp 20)⟩⟩]), qq 22 (.bsl 108 [(.int .i64 0), (.slice none 0 0), (.slice none 0 0)] 1 [⟨0, ⟨3, (.tmp 21)⟩⟩]), qq 23 (.raw (.call ⟨(.builtin .append), #[(.tmp 12), (.tmp 22)], #[54, 54]⟩) 54), qm 3 23]) (.br [qq 17 (.call 40 [(.tmp 16)])] (.leaf [qq 14 (.ld none (.tmp 13)), qq 20 (.call 40 [(.tmp 19)]), qq 21 (.bld [(.int .i64 0), (.slice none 0 0), (.slice none 0 0)] [⟨0, ⟨1, (.tmp 14)⟩⟩, ⟨1, ⟨1, (.tmp 17)⟩⟩, ⟨2, ⟨1, (.tmp 20)⟩⟩]), qq 22 (.bsl 108 [(.int .i64 0), (.slice none 0 0), (.slice none 0 0)] 1 [⟨0, ⟨3, (.tmp 21)⟩⟩]), qq 23 (.raw (.call ⟨(.builtin .append), #[(.tmp 12), (.tmp 22)], #[54, 54]⟩) 54), qm 3 23]) (.leaf [qq 20 (.call 40 [(.tmp 19)]), qq 14 (.ld none (.tmp 13)), qq 21 (.bld [(.int .i64 0), (.slice none 0 0), (.slice none 0 0)] [⟨0, ⟨1, (.tmp 14)⟩⟩, ⟨1, ⟨1, (.tmp 17)⟩⟩, ⟨2, ⟨1, (.tmp 20)⟩⟩]), qq 22 (.bsl 108 [(.int .i64 0), (.slice none 0 0), (.slice none 0 0)] 1 [⟨0, ⟨3, (.tmp 21)⟩⟩]), qq 23 (.raw (.call ⟨(.builtin .append), #[(.tmp 12), (.tmp 22)], #[54, 54]⟩) 54), qm 3 23])))))))))) (.reg [qq 24 (.bin .add (.tmp 8) (ki 1)), qm 8 24]))))
def c15 : MC := (.seq (.reg [qq 2 (.mv (.const (.slice none 0 0)))]) (.seq (.reg [qq 3 (.mv (.const (.slice none 0 0)))]) (.seq (.seq (.reg [qm 6 0, qq 7 (.len (.tmp 6)), qq 8 (.mv (ki 0))]) (.blk 0 (.loop c15l1))) (.seq (.reg [qm 25 3, qm 2 25]) .ret))))
theorem k15 : conv Tryd.prog 26 (Tryd.f15.body.getD .skip) = c15 := by kernel_rfl
theorem in15 {a0 : Value} {w : World} {R : Value → World → Prop} (h : G Tryd.prog Tryd.f15 26 [.c c15] R (frL 0 [a0]) w) : Ret Tryd.prog 15 #[a0] w R := G.enter (args := [a0]) Tryd.func15 (c := Tryd.f15.body.getD .skip) (by kernel_rfl) (by kernel_rfl) (by simp) k15 h
attribute [local irreducible] accC boxC frzQ
set_option maxHeartbeats 1000000 in
theorem refcs_spec {v : Value} {cs : List Chg} {w : World} (h : RdCs w v cs) (hl : cs.length ≤ 1000000) (hcl : ∀ i, i < cs.length → (cs.getD i default).old.length ≤ 1000000 ∧ (cs.getD i default).new.length ≤ 1000000) :
    Ret Tryd.prog 15 #[v] w fun res w' => ∃ vs, Sep w w' [accC res 108 eCg vs, frzQ vs cs] := by
  refine in15 ?_
  have hS := Sep.start w
  obtain ⟨us, g1, l1, i1⟩ := h
  have hbd1 := g1.bd
  repeat' (first | ((with_reducible apply G.a); exact rfl) | refine G.reg fun K hK => ?_ | (with_reducible (refine hK _ _ ?_); clear hK K) | (with_reducible (refine hK _ ?_); clear hK K; intro wd hxd; have hS := Sep.xx hxd) | ((first | have hk := hK | have hk := hK2); clear hk; simp (disch := first | exact dis | fail) only [push_cast, ↓reduceIte, Nat.reduceAdd, Nat.reduceLeDiff, Nat.reduceEqDiff, Nat.reduceLT, Int.reduceToNat, fct]) | ((first | refine zalc ?_ | refine zbsl ?_); intro gb wb hS) | ((with_reducible refine gSt ?_); refine zs2 ?_; intro wb hS) | (refine G.drt mixed fun K hK wd hxd => ?_; have hS := Sep.xx hxd) | with_reducible refine OT_leaf ?_ | (with_reducible (refine hK2 _ ?_); clear hK2 K2; intro wd hxd; have hS := Sep.xx hxd) | with_reducible refine OT_br fun K2 hK2 => ?_ | (refine hK2 _ _ ?_ ?_ <;> clear hK2 K2) | refine G.drg mixed fun K hK => ?_ | (refine G.cn ?_ ?_ <;> intro hc <;> first | (with_reducible exact False.elim hc) | (exfalso; omega) | skip))
  all_goals
  have hS := (hS.nil 108 eCg).frzQ0
  refine G.loop (fun r w' => ∃ (k : Nat) (lv : Value) (vs : List (Int × Value × Value)), k ≤ us.length ∧ r 8 = I k ∧ r 7 = I us.length ∧ r 6 = v ∧ r 3 = lv ∧ Sep w w' [accC lv 108 eCg vs, frzQ vs (cs.take k)]) (fun r _ => us.length - toN (r 8)) ?_ ?_
  · exact ⟨0, .slice none 0 0, [], Nat.zero_le _, by exact sf, by exact sf, by exact sf, by exact sf, (Sep.sub hS (by repeat first | exact Sub.rfl' | exact Sub.nil0 | (refine Sub.c (by repeat constructor) ?_) | refine Sub.skip ?_))⟩
  · clear hS
    rintro u wl ⟨k, lv, vs, hk, q8, q7, q6, q3, hS⟩ ih
    have hm : toN (u 8) = k := by rw [q8]; simp [toN]
    have h1k := g1.ext hS.x
    have hgl := hS.frzQLen (.t .h)
    rw [List.length_take] at hgl
    by_cases hlt : (k : Int) < us.length
    · obtain ⟨y1, y2, y3⟩ := i1 k (by omega)
      obtain ⟨c1, c2⟩ := hcl k (by omega)
      have htk : cs.take (k + 1) = cs.take k ++ [cs.getD k default] := takeD cs k (by omega)
      generalize cs.getD k default = a at y1 y2 y3 c1 c2 htk
      generalize hx : us.getD k default = x at *
      obtain ⟨xk, xo, xn⟩ := x
      simp only [] at y1 y2 y3
      subst y1
      have o1 := y2.one
      have o2 := y3.one
      have hr1 := fun (w2 : World) (hx : Ext w w2) => row20_spec (w := w2) ref17_spec (y2.ext hx) (by omega)
      have hr2 := fun (w2 : World) (hx : Ext w w2) => row20_spec (w := w2) ref17_spec (y3.ext hx) (by omega)
      (have fct := (And.intro @q8 (And.intro @q7 (And.intro @q6 (And.intro @q3 @hx)))); repeat' (first | ((with_reducible apply G.a); exact rfl) | refine G.reg fun K hK => ?_ | (with_reducible (refine hK _ _ ?_); clear hK K) | (with_reducible (refine hK _ ?_); clear hK K; intro wd hxd; have hS := Sep.xx hxd) | ((first | have hk := hK | have hk := hK2); clear hk; simp (disch := first | exact dis | fail) only [push_cast, ↓reduceIte, Nat.reduceAdd, Nat.reduceLeDiff, Nat.reduceEqDiff, Nat.reduceLT, Int.reduceToNat, fct]) | ((first | refine zalc ?_ | refine zbsl ?_); intro gb wb hS) | ((with_reducible refine gSt ?_); refine zs2 ?_; intro wb hS) | ((with_reducible (show CallK _ 40 [xo] _ _ _ _)); refine zco 40 (hr1 _ hS.x) ?_; rintro vx wb hS2; have hS := hS2.ap; simp only [apps] at hS) | ((with_reducible (show CallK _ 40 [xn] _ _ _ _)); refine zco 40 (hr2 _ hS.x) ?_; rintro vy wb hS2; have hS := hS2.ap; simp only [apps] at hS) | (with_reducible refine And.intro (a := OT _ _ _ _ _) (b := OT _ _ _ _ _) ?_ ?_) | (refine zap (y := (a.kind, vx, vy)) ?_ (hy := by rfl); intro vb wb hS) | (refine G.drt mixed fun K hK wd hxd => ?_; have hS := Sep.xx hxd) | with_reducible refine OT_leaf ?_ | (with_reducible (refine hK2 _ ?_); clear hK2 K2; intro wd hxd; have hS := Sep.xx hxd) | with_reducible refine OT_br fun K2 hK2 => ?_ | (refine hK2 _ _ ?_ ?_ <;> clear hK2 K2) | refine G.drg mixed fun K hK => ?_ | (refine G.cn ?_ ?_ <;> intro hc <;> first | (with_reducible exact False.elim hc) | (exfalso; omega) | skip))) <;> (try clear fct)
      all_goals
        have hS := hS.frzQTwo (k := a.kind) (.t .h) .h (.t (.t .h))
        rw [show (⟨a.kind, a.old, a.new⟩ : Chg) = a from rfl, ← htk] at hS
        have fct := (And.intro @q8 (And.intro @q7 (And.intro @q6 @q3))); refine ih _ _ ⟨k + 1, _, _, by omega, by exact sf, by exact sf, by exact sf, by exact sf, (Sep.sub hS (by repeat first | exact Sub.rfl' | exact Sub.nil0 | (refine Sub.c (by repeat constructor) ?_) | refine Sub.skip ?_))⟩ ?_
        rw [hm]; simp only [push_cast, ↓reduceIte, Nat.reduceAdd, Nat.reduceLeDiff, Nat.reduceEqDiff, Nat.reduceLT, Int.reduceToNat, toN_i, q8, q7, q6, q3]; omega
    · rw [List.take_of_length_le (by omega)] at hS
      (have fct := (And.intro @q8 (And.intro @q7 (And.intro @q6 @q3))); repeat' (first | ((with_reducible apply G.a); exact rfl) | refine G.reg fun K hK => ?_ | (with_reducible (refine hK _ _ ?_); clear hK K) | (with_reducible (refine hK _ ?_); clear hK K; intro wd hxd; have hS := Sep.xx hxd) | ((first | have hk := hK | have hk := hK2); clear hk; simp (disch := first | exact dis | fail) only [push_cast, ↓reduceIte, Nat.reduceAdd, Nat.reduceLeDiff, Nat.reduceEqDiff, Nat.reduceLT, Int.reduceToNat, fct]) | ((first | refine zalc ?_ | refine zbsl ?_); intro gb wb hS) | ((with_reducible refine gSt ?_); refine zs2 ?_; intro wb hS) | (refine G.drt mixed fun K hK wd hxd => ?_; have hS := Sep.xx hxd) | with_reducible refine OT_leaf ?_ | (with_reducible (refine hK2 _ ?_); clear hK2 K2; intro wd hxd; have hS := Sep.xx hxd) | with_reducible refine OT_br fun K2 hK2 => ?_ | (refine hK2 _ _ ?_ ?_ <;> clear hK2 K2) | refine G.drg mixed fun K hK => ?_ | (refine G.cn ?_ ?_ <;> intro hc <;> first | (with_reducible exact False.elim hc) | (exfalso; omega) | skip))) <;> (try clear fct)
      all_goals
        (have fct := (And.intro @q8 (And.intro @q7 (And.intro @q6 @q3))); (first | refine G.r1 ?_ | refine G.r2 ?_ | refine G.r3 ?_ | refine G.r0 ?_ | refine G.d0 ?_); (try simp (disch := first | exact dis | fail) only [push_cast, ↓reduceIte, Nat.reduceAdd, Nat.reduceLeDiff, Nat.reduceEqDiff, Nat.reduceLT, Int.reduceToNat, fct]); (try clear fct))
        exact ⟨_, hS⟩
end Go.Proofs.YtjajihaeoolefaaDoor
