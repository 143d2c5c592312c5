/- Texts of the proof, joined. -/
import Derived.Test.YtdhieolfdlkeaaaqJ27
namespace Go.Proofs.Ytdhieolfdlkeaaa
set_option linter.unusedSimpArgs false
set_option linter.unusedVariables false
attribute [local irreducible] SemK UnitK StK AlcK BslK CallK CallV Instr.box Builtin.append_ Instr.makeSlice Instr.makeMap Instr.lookup Instr.mapUpdate Instr.sliceAt convert
open Go.RowKit
section
variable {d : Dl} {s : Str} {R : Rs} {SP : List (Nat × Nat)} {w : World} {v2 fv tv rv : Value} {vs2 : List Value} {r : List Str}
def c53 : MC := (.seq (.reg [qq 5 (.raw (.box 60 (.tmp 0)) 0), qq 6 (.raw (.box 35 (.tmp 1)) 0), qq 10 (.mv (.const (S []))), qq 11 (.mv (ki 0))]) (.seq (.seq (.reg [qm 15 3, qq 16 (.bin .lss (.tmp 15) (ki 0)), qm 17 16, qmf 17 18 3, qf 17 19 (.fad 0 (.tmp 5)), qf 17 20 (.ld none (.tmp 19)), qf 17 21 (.len (.tmp 20)), qf 17 22 (.bin .geq (.tmp 18) (.tmp 21)), qq 23 (.pick (.tmp 17) (kb true) (.tmp 22))]) (.cond (.tmp 23) (.seq (.reg [qq 10 (.mv (.const (S []))), qq 11 (.mv (ki 25))]) .ret) .skip)) (.seq (.seq (.reg [qq 24 (.fad 3 (.tmp 5)), qq 25 (.ld none (.tmp 24)), qq 26 (.bin .neq (.tmp 25) (ki 0))]) (.cond (.tmp 26) (.seq (.reg [qq 10 (.mv (.const (S []))), qq 11 (.mv (ki 23))]) .ret) .skip)) (.seq (.seq (.reg [qm 27 4, qq 28 (.call 78 [(.tmp 27)]), qm 12 28]) (.seq (.reg [qm 29 12, qq 30 (.bin .neq (.tmp 29) (ki 0))]) (.cond (.tmp 30) (.seq (.reg [qm 31 12, qq 10 (.mv (.const (S []))), qm 11 31]) .ret) .skip))) (.seq (.reg [qq 13 (.mv (ki 0))]) (.seq (.seq (.reg [qm 32 3, qq 33 (.bin .eql (.tmp 32) (ki 0))]) (.cond (.tmp 33) (.reg [qq 13 (.mv (ki 1))]) .skip)) (.seq (.reg [qq 34 (.ld (.some 3) (.tmp 6)), qm 35 4, qm 36 13, qq 37 (.call 79 [(.tmp 34), (.tmp 35), (.tmp 36)]), qm 14 37]) (.seq (.drg [qm 38 2, qq 39 (.fad 1 (.tmp 5)), qq 40 (.ld none (.tmp 39)), qm 41 3, qq 42 (.adr 1 (.tmp 40) (.tmp 41)), qq 43 (.ld none (.tmp 42)), qq 44 (.slS (.tmp 38) none (.some (.tmp 43))), qm 45 14, qm 46 14, qq 47 (.lenS (.tmp 46)), qq 48 (.ld (.some 3) (.tmp 6)), qq 49 (.call 80 [(.tmp 48)]), qq 50 (.lenS (.tmp 49)), qq 51 (.bin .sub (.tmp 47) (.tmp 50)), qq 52 (.slS (.tmp 45) none (.some (.tmp 51))), qq 53 (.bin .add (.tmp 44) (.tmp 52)), qm 54 2, qq 55 (.fad 2 (.tmp 5)), qq 56 (.ld none (.tmp 55)), qm 57 3, qq 58 (.adr 1 (.tmp 56) (.tmp 57)), qq 59 (.ld none (.tmp 58)), qq 60 (.slS (.tmp 54) (.some (.tmp 59)) none), qq 61 (.bin .add (.tmp 53) (.tmp 60)), qm 10 61, qq 11 (.mv (ki 0))] none) .ret))))))))
theorem k53 : conv Try.prog 62 (Try.f53.body.getD .skip) = c53 := by kernel_rfl
theorem in53 {a0 a1 a2 a3 a4 : Value} {w : World} {R : Value → World → Prop} (h : G Try.prog Try.f53 62 [.c c53] R (frL 0 [a0, a1, a2, a3, a4]) w) : Ret Try.prog 53 #[a0, a1, a2, a3, a4] w R := G.enter (args := [a0, a1, a2, a3, a4]) Try.func53 (c := Try.f53.body.getD .skip) (by kernel_rfl) (by kernel_rfl) (by simp) k53 h
theorem rset_spec0 (hd : byD d) (hV : Rd w eV v2 vs2) (hvl : vs2.length = SP.length) (hF : Rd w eI fv (toI (SP.map Prod.fst))) (hT : Rd w eI tv (toI (SP.map Prod.snd))) (hr : Rd w eS rv r) (hN : ∀ f ∈ r, f.length ≤ 1000000) (hl : r.length ≤ 10000) (i : Int) (hE : setE SP.length R.k i r ≠ 0) : Pu Try.prog 53 #[.agg #[v2, fv, tv, I R.k, I R.a], (.agg #[I d.dl, I d.q, I d.e]), S s, I i, rv] w (.tuple #[S [], I (setE SP.length R.k i r)]) := by
  refine in53 ?_
  have hS := Sep.start w
  by_cases hi : 0 ≤ i ∧ i < SP.length
  · by_cases hk : R.k = 0
    · have e : setE SP.length R.k i r = mayR r := by unfold setE; rw [if_neg (fun h => h hi), if_neg (fun h => h hk)]
      rw [e] at hE ⊢
      (have fct := (And.intro @hk @hvl); repeat' (first | ((with_reducible apply G.a); exact rfl) | refine G.reg fun K hK => ?_ | (with_reducible (refine hK _ _ ?_); clear hK K) | (with_reducible (refine hK _ ?_); clear hK K; intro wd hxd; have hS := Sep.xx hxd) | ((first | have hk := hK | have hk := hK2); clear hk; simp (disch := (first | exact dis | fail)) only [push_cast, ↓reduceIte, Nat.reduceAdd, Nat.reduceLeDiff, Nat.reduceEqDiff, Nat.reduceLT, Int.reduceToNat, fct]) | ((first | refine brO_n ?_ ?_ | refine brQ_n ?_ ?_) <;> intro hb hc <;> first | (with_reducible exact False.elim hc) | (exfalso; omega) | (simp only [hb]; clear hb)) | ((first | refine zalc ?_ | refine zbsl ?_ | ((with_reducible refine gBox ?_); refine zbox ?_)); intro gb wb hS) | ((with_reducible refine gSt ?_); refine zs2 ?_; intro wb hS) | (refine zcv ?_) | (refine zcp 78 (rmay_spec (hr.ext (Sep.xt (by assumption))) hN) ?_; intro wb hS) | (refine G.drt mixed fun K hK wd hxd => ?_; have hS := Sep.xx hxd) | with_reducible refine OT_leaf ?_ | (with_reducible refine OT_tail fun K2 hK2 => ?_) | (with_reducible (refine hK2 _ ?_); clear hK2 K2; intro wd hxd; have hS := Sep.xx hxd) | with_reducible refine OT_br fun K2 hK2 => ?_ | (refine hK2 _ _ ?_ ?_ <;> clear hK2 K2) | refine G.drg mixed fun K hK => ?_ | (refine G.cn ?_ ?_ <;> intro hc <;> first | (with_reducible exact False.elim hc) | (exfalso; omega) | skip))) <;> (try clear fct)
      all_goals
        ((first | apply G.rv1 rfl | apply G.rv2 rfl | apply G.rv3 rfl | apply G.ret0 rfl) <;> first | exact RV.tmp | exact zag2 | skip); (try simp (disch := (first | exact dis | fail)) only [push_cast, ↓reduceIte, Nat.reduceAdd, Nat.reduceLeDiff, Nat.reduceEqDiff, Nat.reduceLT, Int.reduceToNat, fct])
        exact Sep.xt (by assumption)
    · have e : setE SP.length R.k i r = 23 := by unfold setE; rw [if_neg (fun h => h hi), if_pos hk]
      rw [e]
      (have fct := @hvl; repeat' (first | ((with_reducible apply G.a); exact rfl) | refine G.reg fun K hK => ?_ | (with_reducible (refine hK _ _ ?_); clear hK K) | (with_reducible (refine hK _ ?_); clear hK K; intro wd hxd; have hS := Sep.xx hxd) | ((first | have hk := hK | have hk := hK2); clear hk; simp (disch := (first | exact dis | fail)) only [push_cast, ↓reduceIte, Nat.reduceAdd, Nat.reduceLeDiff, Nat.reduceEqDiff, Nat.reduceLT, Int.reduceToNat, fct]) | ((first | refine brO_n ?_ ?_ | refine brQ_n ?_ ?_) <;> intro hb hc <;> first | (with_reducible exact False.elim hc) | (exfalso; omega) | (simp only [hb]; clear hb)) | ((first | refine zalc ?_ | refine zbsl ?_ | ((with_reducible refine gBox ?_); refine zbox ?_)); intro gb wb hS) | ((with_reducible refine gSt ?_); refine zs2 ?_; intro wb hS) | (refine zcv ?_)  | (refine G.drt mixed fun K hK wd hxd => ?_; have hS := Sep.xx hxd) | with_reducible refine OT_leaf ?_ | (with_reducible refine OT_tail fun K2 hK2 => ?_) | (with_reducible (refine hK2 _ ?_); clear hK2 K2; intro wd hxd; have hS := Sep.xx hxd) | with_reducible refine OT_br fun K2 hK2 => ?_ | (refine hK2 _ _ ?_ ?_ <;> clear hK2 K2) | refine G.drg mixed fun K hK => ?_ | (refine G.cn ?_ ?_ <;> intro hc <;> first | (with_reducible exact False.elim hc) | (exfalso; omega) | skip))) <;> (try clear fct)
      all_goals
        ((first | apply G.rv1 rfl | apply G.rv2 rfl | apply G.rv3 rfl | apply G.ret0 rfl) <;> first | exact RV.tmp | exact zag2 | skip); (try simp (disch := (first | exact dis | fail)) only [push_cast, ↓reduceIte, Nat.reduceAdd, Nat.reduceLeDiff, Nat.reduceEqDiff, Nat.reduceLT, Int.reduceToNat, fct])
        exact Sep.xt (by assumption)
  · have e : setE SP.length R.k i r = 25 := by unfold setE; rw [if_pos hi]
    rw [e]
    (have fct := @hvl; repeat' (first | ((with_reducible apply G.a); exact rfl) | refine G.reg fun K hK => ?_ | (with_reducible (refine hK _ _ ?_); clear hK K) | (with_reducible (refine hK _ ?_); clear hK K; intro wd hxd; have hS := Sep.xx hxd) | ((first | have hk := hK | have hk := hK2); clear hk; simp (disch := (first | exact dis | fail)) only [push_cast, ↓reduceIte, Nat.reduceAdd, Nat.reduceLeDiff, Nat.reduceEqDiff, Nat.reduceLT, Int.reduceToNat, fct]) | ((first | refine brO_n ?_ ?_ | refine brQ_n ?_ ?_) <;> intro hb hc <;> first | (with_reducible exact False.elim hc) | (exfalso; omega) | (simp only [hb]; clear hb)) | ((first | refine zalc ?_ | refine zbsl ?_ | ((with_reducible refine gBox ?_); refine zbox ?_)); intro gb wb hS) | ((with_reducible refine gSt ?_); refine zs2 ?_; intro wb hS) | (refine zcv ?_)  | (refine G.drt mixed fun K hK wd hxd => ?_; have hS := Sep.xx hxd) | with_reducible refine OT_leaf ?_ | (with_reducible refine OT_tail fun K2 hK2 => ?_) | (with_reducible (refine hK2 _ ?_); clear hK2 K2; intro wd hxd; have hS := Sep.xx hxd) | with_reducible refine OT_br fun K2 hK2 => ?_ | (refine hK2 _ _ ?_ ?_ <;> clear hK2 K2) | refine G.drg mixed fun K hK => ?_ | (refine G.cn ?_ ?_ <;> intro hc <;> first | (with_reducible exact False.elim hc) | (exfalso; omega) | skip))) <;> (try clear fct)
    all_goals
      ((first | apply G.rv1 rfl | apply G.rv2 rfl | apply G.rv3 rfl | apply G.ret0 rfl) <;> first | exact RV.tmp | exact zag2 | skip); (try simp (disch := (first | exact dis | fail)) only [push_cast, ↓reduceIte, Nat.reduceAdd, Nat.reduceLeDiff, Nat.reduceEqDiff, Nat.reduceLT, Int.reduceToNat, fct])
      exact Sep.xt (by assumption)
set_option maxHeartbeats 1000000 in
theorem rset_spec1 (hd : byD d) (hV : Rd w eV v2 vs2) (hvl : vs2.length = SP.length) (hF : Rd w eI fv (toI (SP.map Prod.fst))) (hT : Rd w eI tv (toI (SP.map Prod.snd))) (hr : Rd w eS rv r) (hN : ∀ f ∈ r, f.length ≤ 1000000) (hl : r.length ≤ 10000) (i : Nat) (hE : setE SP.length R.k i r = 0) (hs : s.length ≤ 300) (hsp : Spans SP (endR27 R s.length) s.length) (hL : ((lineF d r.length (decide (i = 0)) 0 r)).length ≤ 500000) :
    Pu Try.prog 53 #[.agg #[v2, fv, tv, I R.k, I R.a], (.agg #[I d.dl, I d.q, I d.e]), S s, I i, rv] w (.tuple #[S (s.take (SP.getD i default).1 ++ (lineF d r.length (decide (i = 0)) 0 r) ++ s.drop (SP.getD i default).2), I 0]) := by
  refine in53 ?_
  have hS := Sep.start w
  unfold setE at hE
  split at hE
  · simp at hE
  rename_i hi
  rw [Classical.not_not] at hi
  split at hE
  · simp at hE
  rename_i hk
  rw [Ne, Classical.not_not] at hk
  have hin : i < SP.length := by omega
  have hel : (endM d).length ≤ 2 := by unfold endM; split <;> simp
  obtain ⟨hb1, hb2⟩ : (SP.getD i default).1 ≤ (SP.getD i default).2 ∧ (SP.getD i default).2 ≤ s.length := ⟨(hsp.one i hin).1, Nat.le_trans (hsp.one i hin).2 hsp.hn⟩
  have hfk := toI_at Prod.fst SP i hin
  have hsk := toI_at Prod.snd SP i hin
  have hfl : (toI (SP.map Prod.fst)).length = SP.length := by simp [toI]
  have hsl : (toI (SP.map Prod.snd)).length = SP.length := by simp [toI]
  have hq : ∀ w, Rd w eS rv r → Pu Try.prog 79 #[(.agg #[I d.dl, I d.q, I d.e]), rv, I (oneI (decide (i = 0)))] w (S (lineM d r (decide (i = 0)))) := fun w hr => rline10_spec d hd _ w hr hN hl
  have hml : (lineM d r (decide (i = 0))).length = ((lineF d r.length (decide (i = 0)) 0 r)).length + (endM d).length := by unfold lineM; rw [List.length_append]
  have hmt : (lineM d r (decide (i = 0))).take ((lineF d r.length (decide (i = 0)) 0 r)).length = (lineF d r.length (decide (i = 0)) 0 r) := by unfold lineM; simp
  generalize lineM d r (decide (i = 0)) = M at *
  generalize (lineF d r.length (decide (i = 0)) 0 r) = L at *
  have hTn : ((M.length : Int) - ((endM d).length : Int)).toNat = L.length := by omega
  by_cases h0 : i = 0
  · have hd0 : oneI (decide (i = 0)) = 1 := by rw [decide_eq_true h0]; rfl
    rw [hd0] at hq
    (have fct := (And.intro @hk (And.intro @hvl (And.intro @hE (And.intro @hfk (And.intro @hsk (And.intro @hfl (And.intro @hsl (And.intro @hTn @hmt)))))))); repeat' (first | ((with_reducible apply G.a); exact rfl) | refine G.reg fun K hK => ?_ | (with_reducible (refine hK _ _ ?_); clear hK K) | (with_reducible (refine hK _ ?_); clear hK K; intro wd hxd; have hS := Sep.xx hxd) | ((first | have hk := hK | have hk := hK2); clear hk; simp (disch := (first | exact dis | fail)) only [push_cast, ↓reduceIte, Nat.reduceAdd, Nat.reduceLeDiff, Nat.reduceEqDiff, Nat.reduceLT, Int.reduceToNat, fct]) | ((first | refine brO_n ?_ ?_ | refine brQ_n ?_ ?_) <;> intro hb hc <;> first | (with_reducible exact False.elim hc) | (exfalso; omega) | (simp only [hb]; clear hb)) | ((first | refine zalc ?_ | refine zbsl ?_ | ((with_reducible refine gBox ?_); refine zbox ?_)); intro gb wb hS) | ((with_reducible refine gSt ?_); refine zs2 ?_; intro wb hS) | (refine zcv ?_) | (refine zcp 78 (rmay_spec (hr.ext (Sep.xt (by assumption))) hN) ?_; intro wb hS) | (refine zcp 79 (hq _ (hr.ext (Sep.xt (by assumption)))) ?_; intro wb hS) | ((with_reducible (show CallQ _ 80 [_] _ _ _ _)); refine zcq 80 (fun w2 hw2 => rend_spec d _) ?_) | (refine G.drt mixed fun K hK wd hxd => ?_; have hS := Sep.xx hxd) | with_reducible refine OT_leaf ?_ | (with_reducible refine OT_tail fun K2 hK2 => ?_) | (with_reducible (refine hK2 _ ?_); clear hK2 K2; intro wd hxd; have hS := Sep.xx hxd) | with_reducible refine OT_br fun K2 hK2 => ?_ | (refine hK2 _ _ ?_ ?_ <;> clear hK2 K2) | refine G.drg mixed fun K hK => ?_ | (refine G.cn ?_ ?_ <;> intro hc <;> first | (with_reducible exact False.elim hc) | (exfalso; omega) | skip))) <;> (try clear fct)
    all_goals
      ((first | apply G.rv1 rfl | apply G.rv2 rfl | apply G.rv3 rfl | apply G.ret0 rfl) <;> first | exact RV.tmp | exact zag2 | skip); (try simp (disch := (first | exact dis | fail)) only [push_cast, ↓reduceIte, Nat.reduceAdd, Nat.reduceLeDiff, Nat.reduceEqDiff, Nat.reduceLT, Int.reduceToNat, fct])
      exact Sep.xt (by assumption)
  · have hd0 : oneI (decide (i = 0)) = 0 := by rw [decide_eq_false h0]; rfl
    rw [hd0] at hq
    (have fct := (And.intro @hk (And.intro @hvl (And.intro @hE (And.intro @hfk (And.intro @hsk (And.intro @hfl (And.intro @hsl (And.intro @hTn @hmt)))))))); repeat' (first | ((with_reducible apply G.a); exact rfl) | refine G.reg fun K hK => ?_ | (with_reducible (refine hK _ _ ?_); clear hK K) | (with_reducible (refine hK _ ?_); clear hK K; intro wd hxd; have hS := Sep.xx hxd) | ((first | have hk := hK | have hk := hK2); clear hk; simp (disch := (first | exact dis | fail)) only [push_cast, ↓reduceIte, Nat.reduceAdd, Nat.reduceLeDiff, Nat.reduceEqDiff, Nat.reduceLT, Int.reduceToNat, fct]) | ((first | refine brO_n ?_ ?_ | refine brQ_n ?_ ?_) <;> intro hb hc <;> first | (with_reducible exact False.elim hc) | (exfalso; omega) | (simp only [hb]; clear hb)) | ((first | refine zalc ?_ | refine zbsl ?_ | ((with_reducible refine gBox ?_); refine zbox ?_)); intro gb wb hS) | ((with_reducible refine gSt ?_); refine zs2 ?_; intro wb hS) | (refine zcv ?_) | (refine zcp 78 (rmay_spec (hr.ext (Sep.xt (by assumption))) hN) ?_; intro wb hS) | (refine zcp 79 (hq _ (hr.ext (Sep.xt (by assumption)))) ?_; intro wb hS) | ((with_reducible (show CallQ _ 80 [_] _ _ _ _)); refine zcq 80 (fun w2 hw2 => rend_spec d _) ?_) | (refine G.drt mixed fun K hK wd hxd => ?_; have hS := Sep.xx hxd) | with_reducible refine OT_leaf ?_ | (with_reducible refine OT_tail fun K2 hK2 => ?_) | (with_reducible (refine hK2 _ ?_); clear hK2 K2; intro wd hxd; have hS := Sep.xx hxd) | with_reducible refine OT_br fun K2 hK2 => ?_ | (refine hK2 _ _ ?_ ?_ <;> clear hK2 K2) | refine G.drg mixed fun K hK => ?_ | (refine G.cn ?_ ?_ <;> intro hc <;> first | (with_reducible exact False.elim hc) | (exfalso; omega) | skip))) <;> (try clear fct)
    all_goals
      ((first | apply G.rv1 rfl | apply G.rv2 rfl | apply G.rv3 rfl | apply G.ret0 rfl) <;> first | exact RV.tmp | exact zag2 | skip); (try simp (disch := (first | exact dis | fail)) only [push_cast, ↓reduceIte, Nat.reduceAdd, Nat.reduceLeDiff, Nat.reduceEqDiff, Nat.reduceLT, Int.reduceToNat, fct])
      exact Sep.xt (by assumption)
end
end Go.Proofs.Ytdhieolfdlkeaaa
