/- Texts of the proof, joined. -/
import Derived.Test.YtdhieolfdlkeaaaqN27
namespace Go.Proofs.Ytdhieolfdlkeaaa
set_option linter.unusedSimpArgs false
set_option linter.unusedVariables false
attribute [local irreducible] SemK UnitK StK AlcK BslK CallK CallV Instr.box Builtin.append_ Instr.makeSlice Instr.makeMap Instr.lookup Instr.mapUpdate Instr.sliceAt convert
open Go.RowKit
section
variable {d : Dl} {w : World} {R R2 : Rs} {SP SP2 : List (Nat × Nat)} {T T2 : List (List Str)} {n : Nat} {nt : Str} {i : Nat} {r : List Str} {rv : Value}
theorem isets_loop {ρ : Fr} {w' : World} {g8 g3 g5 : Nat} {v2 fv tv v3 sv3 : Value} {vs2 vs3 : List Value} (hr : Rd w eS rv r) (hTl : T.length = SP.length) (hT2 : T2 = T.set i r) (hl3 : SP2.length = SP.length) (hl2 : vs2.length = SP.length) (hl5 : vs3.length = SP.length) (hmb : ∀ x ∈ T2, x.length ≤ 1000000000000) (hi : i < SP.length)
    (hS : Sep w w' [boxC g8 60 [v2, fv, tv, I R.k, I R.a], boxC g3 113 [U d.dl, U d.q, I d.e, S nt, I R2.k, I R2.a, v3, sv3], accC sv3 121 eP SP2, accC v3 47 eV vs3, frzC eS vs3 T2, boxC g5 95 [I i, rv], accC v2 47 eV vs2, frzC eS vs2 T]) (q5 : ρ 5 = .pointer (some ⟨g5, 0, none⟩)) (q9 : ρ 9 = .pointer (some ⟨g3, 0, none⟩)) (q92 : ρ 92 = v2) (q93 : ρ 93 = I SP.length) (q94 : ρ 94 = I 0) :
    G Try.prog Try.f15 n [.c (.loop c15l1), .b 0, .c (.seq (.reg [qq 120 (.call 28 []), qm 6 120]) .ret)] (fun v w' => v = .bool true ∧ Ext w w') ρ w' := by
  have h1 : One rv := hr.one
  have hT2l : T2.length = SP.length := by rw [hT2, List.length_set]; exact hTl
  refine G.loop (fun r w' => ∃ (k : Nat), k ≤ SP.length ∧ r 5 = .pointer (some ⟨g5, 0, none⟩) ∧ r 9 = .pointer (some ⟨g3, 0, none⟩) ∧ r 92 = v2 ∧ r 93 = I SP.length ∧ r 94 = I k ∧ Sep w w' [boxC g8 60 [v2, fv, tv, I R.k, I R.a], boxC g3 113 [U d.dl, U d.q, I d.e, S nt, I R2.k, I R2.a, v3, sv3], accC sv3 121 eP SP2, accC v3 47 eV vs3, frzC eS vs3 T2, boxC g5 95 [I i, rv], accC v2 47 eV vs2, frzC eS vs2 T]) (fun r _ => SP.length - toN (r 94)) ?_ ?_
  · exact ⟨0, Nat.zero_le _, q5, q9, q92, q93, q94, hS⟩
  · have hbd := (Sep.rd (v := sv3) (e := eP) (xs := SP2) hS (by repeat constructor)).bd
    clear hS q5 q9 q92 q93 q94
    rintro u wl ⟨k, hk, q5, q9, q92, q93, q94, hS⟩ ih
    have hm : toN (u 94) = k := by rw [q94]; simp [toN]
    by_cases hkk : (k : Int) < SP.length
    · have hkn : k < SP.length := by omega
      have hrk : (T2.getD k []).length ≤ 1000000000000 := by
        have : T2.getD k [] ∈ T2 := by rw [List.getD_eq_getElem?_getD, List.getElem?_eq_getElem (by omega)]; exact List.getElem_mem _
        exact hmb _ this
      by_cases hki : k = i
      · subst hki
        have hgk : T2.getD k [] = r := by rw [hT2]; simp [List.getD_eq_getElem?_getD, show k < T.length by omega]
        (have fct := (And.intro @q5 (And.intro @q9 (And.intro @q92 (And.intro @q93 (And.intro @q94 (And.intro @hl2 @hgk)))))); repeat' (first | ((with_reducible apply G.a); exact rfl) | refine G.reg fun K hK => ?_ | (with_reducible (refine hK _ _ ?_); clear hK K) | (with_reducible (refine hK _ ?_); clear hK K; intro wd hxd; have hS := Sep.xx hxd) | ((first | have hk := hK | have hk := hK2); clear hk; simp (disch := (first | exact dis | fail)) only [push_cast, ↓reduceIte, Nat.reduceAdd, Nat.reduceLeDiff, Nat.reduceEqDiff, Nat.reduceLT, Int.reduceToNat, fct]) | ((first | refine brO_n ?_ ?_ | refine brQ_n ?_ ?_) <;> intro hb hc <;> first | (with_reducible exact False.elim hc) | (exfalso; omega) | (simp only [hb]; clear hb)) | ((first | refine zalc ?_ | refine zbsl ?_ | ((with_reducible refine gBox ?_); refine zbox ?_)); intro gb wb hS) | ((with_reducible refine gSt ?_); refine zs2 ?_; intro wb hS) | (refine zcv ?_) | (refine zco 34 (iget_spec1 (r := T2.getD k []) (Sep.blk hS (by repeat constructor)) (Sep.rd hS (by repeat constructor)) (Sep.rd hS (by repeat constructor)) _ (by omega) (hl5.trans hl3.symm) (Sep.frzAt hS (by repeat constructor) (by show k < _; omega)) hrk) ?_; rintro vb wb ⟨xv, rfl, hS2⟩; have hS := hS2.ap; simp only [apps] at hS) | (refine zcp 24 (same05_spec (a := T2.getD k []) (b := r) (Sep.rd hS (by repeat constructor)) (hr.ext (Sep.xt (by assumption)))) ?_; intro wb hS) | (refine G.drt mixed fun K hK wd hxd => ?_; have hS := Sep.xx hxd) | with_reducible refine OT_leaf ?_ | (with_reducible refine OT_tail fun K2 hK2 => ?_) | (with_reducible (refine hK2 _ ?_); clear hK2 K2; intro wd hxd; have hS := Sep.xx hxd) | with_reducible refine OT_br fun K2 hK2 => ?_ | (refine hK2 _ _ ?_ ?_ <;> clear hK2 K2) | refine G.drg mixed fun K hK => ?_ | (refine G.cn ?_ ?_ <;> intro hc <;> first | (with_reducible exact False.elim hc) | (exfalso; omega) | skip))) <;> (try clear fct)
        all_goals
          refine ih _ _ ⟨k + 1, by omega, by simp only [push_cast, ↓reduceIte, Nat.reduceAdd, Nat.reduceLeDiff, Nat.reduceEqDiff, Nat.reduceLT, Int.reduceToNat, q5, q9, q92, q93, q94], by simp only [push_cast, ↓reduceIte, Nat.reduceAdd, Nat.reduceLeDiff, Nat.reduceEqDiff, Nat.reduceLT, Int.reduceToNat, q5, q9, q92, q93, q94], by simp only [push_cast, ↓reduceIte, Nat.reduceAdd, Nat.reduceLeDiff, Nat.reduceEqDiff, Nat.reduceLT, Int.reduceToNat, q5, q9, q92, q93, q94], by simp only [push_cast, ↓reduceIte, Nat.reduceAdd, Nat.reduceLeDiff, Nat.reduceEqDiff, Nat.reduceLT, Int.reduceToNat, q5, q9, q92, q93, q94], by simp only [push_cast, ↓reduceIte, Nat.reduceAdd, Nat.reduceLeDiff, Nat.reduceEqDiff, Nat.reduceLT, Int.reduceToNat, q5, q9, q92, q93, q94] <;> rfl, (Sep.sub hS (by repeat first | exact Sub.rfl' | exact Sub.n | (refine Sub.c (by repeat constructor) ?_) | refine Sub.skip ?_))⟩ ?_
          rw [hm]; simp only [push_cast, ↓reduceIte, Nat.reduceAdd, Nat.reduceLeDiff, Nat.reduceEqDiff, Nat.reduceLT, Int.reduceToNat, toN_i, q5, q9, q92, q93, q94]; omega
      · have hgk : T2.getD k [] = T.getD k [] := by rw [hT2]; simp [List.getD_eq_getElem?_getD, List.getElem?_set_ne (fun e => hki e.symm)]
        have hki2 : ¬ ((k : Int) = i) := by omega
        (have fct := (And.intro @q5 (And.intro @q9 (And.intro @q92 (And.intro @q93 (And.intro @q94 (And.intro @hl2 (And.intro @hgk @hki2))))))); repeat' (first | ((with_reducible apply G.a); exact rfl) | refine G.reg fun K hK => ?_ | (with_reducible (refine hK _ _ ?_); clear hK K) | (with_reducible (refine hK _ ?_); clear hK K; intro wd hxd; have hS := Sep.xx hxd) | ((first | have hk := hK | have hk := hK2); clear hk; simp (disch := (first | exact dis | fail)) only [push_cast, ↓reduceIte, Nat.reduceAdd, Nat.reduceLeDiff, Nat.reduceEqDiff, Nat.reduceLT, Int.reduceToNat, fct]) | ((first | refine brO_n ?_ ?_ | refine brQ_n ?_ ?_) <;> intro hb hc <;> first | (with_reducible exact False.elim hc) | (exfalso; omega) | (simp only [hb]; clear hb)) | ((first | refine zalc ?_ | refine zbsl ?_ | ((with_reducible refine gBox ?_); refine zbox ?_)); intro gb wb hS) | ((with_reducible refine gSt ?_); refine zs2 ?_; intro wb hS) | (refine zcv ?_) | (refine zco 34 (iget_spec1 (r := T2.getD k []) (Sep.blk hS (by repeat constructor)) (Sep.rd hS (by repeat constructor)) (Sep.rd hS (by repeat constructor)) _ (by omega) (hl5.trans hl3.symm) (Sep.frzAt hS (by repeat constructor) (by show k < _; omega)) hrk) ?_; rintro vb wb ⟨xv, rfl, hS2⟩; have hS := hS2.ap; simp only [apps] at hS) | (refine zcp 24 (same05_spec (a := T2.getD k []) (b := T.getD k []) (Sep.rd hS (by repeat constructor)) (Sep.frzAt hS (by repeat constructor) (by omega))) ?_; intro wb hS) | (refine G.drt mixed fun K hK wd hxd => ?_; have hS := Sep.xx hxd) | with_reducible refine OT_leaf ?_ | (with_reducible refine OT_tail fun K2 hK2 => ?_) | (with_reducible (refine hK2 _ ?_); clear hK2 K2; intro wd hxd; have hS := Sep.xx hxd) | with_reducible refine OT_br fun K2 hK2 => ?_ | (refine hK2 _ _ ?_ ?_ <;> clear hK2 K2) | refine G.drg mixed fun K hK => ?_ | (refine G.cn ?_ ?_ <;> intro hc <;> first | (with_reducible exact False.elim hc) | (exfalso; omega) | skip))) <;> (try clear fct)
        all_goals
          refine ih _ _ ⟨k + 1, by omega, by simp only [push_cast, ↓reduceIte, Nat.reduceAdd, Nat.reduceLeDiff, Nat.reduceEqDiff, Nat.reduceLT, Int.reduceToNat, q5, q9, q92, q93, q94], by simp only [push_cast, ↓reduceIte, Nat.reduceAdd, Nat.reduceLeDiff, Nat.reduceEqDiff, Nat.reduceLT, Int.reduceToNat, q5, q9, q92, q93, q94], by simp only [push_cast, ↓reduceIte, Nat.reduceAdd, Nat.reduceLeDiff, Nat.reduceEqDiff, Nat.reduceLT, Int.reduceToNat, q5, q9, q92, q93, q94], by simp only [push_cast, ↓reduceIte, Nat.reduceAdd, Nat.reduceLeDiff, Nat.reduceEqDiff, Nat.reduceLT, Int.reduceToNat, q5, q9, q92, q93, q94], by simp only [push_cast, ↓reduceIte, Nat.reduceAdd, Nat.reduceLeDiff, Nat.reduceEqDiff, Nat.reduceLT, Int.reduceToNat, q5, q9, q92, q93, q94] <;> rfl, (Sep.sub hS (by repeat first | exact Sub.rfl' | exact Sub.n | (refine Sub.c (by repeat constructor) ?_) | refine Sub.skip ?_))⟩ ?_
          rw [hm]; simp only [push_cast, ↓reduceIte, Nat.reduceAdd, Nat.reduceLeDiff, Nat.reduceEqDiff, Nat.reduceLT, Int.reduceToNat, toN_i, q5, q9, q92, q93, q94]; omega
    · (have fct := (And.intro @q5 (And.intro @q9 (And.intro @q92 (And.intro @q93 @q94)))); repeat' (first | ((with_reducible apply G.a); exact rfl) | refine G.reg fun K hK => ?_ | (with_reducible (refine hK _ _ ?_); clear hK K) | (with_reducible (refine hK _ ?_); clear hK K; intro wd hxd; have hS := Sep.xx hxd) | ((first | have hk := hK | have hk := hK2); clear hk; simp (disch := (first | exact dis | fail)) only [push_cast, ↓reduceIte, Nat.reduceAdd, Nat.reduceLeDiff, Nat.reduceEqDiff, Nat.reduceLT, Int.reduceToNat, fct]) | ((first | refine brO_n ?_ ?_ | refine brQ_n ?_ ?_) <;> intro hb hc <;> first | (with_reducible exact False.elim hc) | (exfalso; omega) | (simp only [hb]; clear hb)) | ((first | refine zalc ?_ | refine zbsl ?_ | ((with_reducible refine gBox ?_); refine zbox ?_)); intro gb wb hS) | ((with_reducible refine gSt ?_); refine zs2 ?_; intro wb hS) | (refine zcv ?_) | (refine zcp 28 (awake27_spec _) ?_; intro wb hS) | (refine G.drt mixed fun K hK wd hxd => ?_; have hS := Sep.xx hxd) | with_reducible refine OT_leaf ?_ | (with_reducible refine OT_tail fun K2 hK2 => ?_) | (with_reducible (refine hK2 _ ?_); clear hK2 K2; intro wd hxd; have hS := Sep.xx hxd) | with_reducible refine OT_br fun K2 hK2 => ?_ | (refine hK2 _ _ ?_ ?_ <;> clear hK2 K2) | refine G.drg mixed fun K hK => ?_ | (refine G.cn ?_ ?_ <;> intro hc <;> first | (with_reducible exact False.elim hc) | (exfalso; omega) | skip))) <;> (try clear fct)
      all_goals
        ((first | apply G.rv1 rfl | apply G.rv2 rfl | apply G.rv3 rfl | apply G.ret0 rfl) <;> first | exact RV.tmp | exact zag2 | skip); (try simp (disch := (first | exact dis | fail)) only [push_cast, ↓reduceIte, Nat.reduceAdd, Nat.reduceLeDiff, Nat.reduceEqDiff, Nat.reduceLT, Int.reduceToNat, fct])
        exact Sep.xt (by assumption)
end
set_option maxHeartbeats 1000000 in
theorem isets_ok (d : Dl) (s : Str) (i : Nat) (rv : Value) (r : List Str) (w : World) (hd : byD d) (hr : Rd w eS rv r) (hl : s.length ≤ 300) (hrt : rightD d = true) (hg : greatM [r] 1 10 100 = false)
    (hE : setE (spM d s).length (parM d wideL s).k i r = 0) (hN : ∀ f ∈ r, f.length ≤ 1000000) (hrl : r.length ≤ 10000) (hL : ((lineF d r.length (decide (i = 0)) 0 r)).length ≤ 500000) {R2 : Rs} {SP2 : List (Nat × Nat)} (hR2 : parM d wideL (s.take ((spM d s).getD i default).1 ++ (lineF d r.length (decide (i = 0)) 0 r) ++ s.drop ((spM d s).getD i default).2) = R2) (hSP2 : spM d (s.take ((spM d s).getD i default).1 ++ (lineF d r.length (decide (i = 0)) 0 r) ++ s.drop ((spM d s).getD i default).2) = SP2)
    (hT2 : R2.rs.map Prod.fst = ((parM d wideL s).rs.map Prod.fst).set i r) (hl3 : SP2.length = (spM d s).length) (hmb : ∀ x ∈ R2.rs.map Prod.fst, x.length ≤ 1000000000000) : Pu Try.prog 15 #[(.agg #[U d.dl, U d.q, I d.e]), S s, .agg #[I i, rv]] w (.bool true) := by
  refine in15 ?_
  have hS := Sep.start w
  have h1 : One rv := hr.one
  have hm := fun w => made_spec1 d s w hd hl hrt rfl rfl
  have hln := spM_len d s
  have hsp := spM_spans d s
  generalize parM d wideL s = R at *
  generalize spM d s = SP at *
  rw [← hln] at hm
  generalize hT : R.rs.map Prod.fst = T at *
  repeat' (first | ((with_reducible apply G.a); exact rfl) | refine G.reg fun K hK => ?_ | (with_reducible (refine hK _ _ ?_); clear hK K) | (with_reducible (refine hK _ ?_); clear hK K; intro wd hxd; have hS := Sep.xx hxd) | ((first | have hk := hK | have hk := hK2); clear hk; simp (disch := (first | exact dis | fail)) only [push_cast, ↓reduceIte, Nat.reduceAdd, Nat.reduceLeDiff, Nat.reduceEqDiff, Nat.reduceLT, Int.reduceToNat, fct]) | ((first | refine brO_n ?_ ?_ | refine brQ_n ?_ ?_) <;> intro hb hc <;> first | (with_reducible exact False.elim hc) | (exfalso; omega) | (simp only [hb]; clear hb)) | ((first | refine zalc ?_ | refine zbsl ?_ | ((with_reducible refine gBox ?_); refine zbox ?_)); intro gb wb hS) | ((with_reducible refine gSt ?_); refine zs2 ?_; intro wb hS) | (refine zcv ?_) | (refine zco 35 (hm _) ?_; rintro vb wb ⟨g, v, vs, sv, v2, vs2, fv, tv, rfl, hl1, hl2, hS2⟩; have hS := hS2.ap; simp only [apps] at hS) | (refine zn3 ?_) | (refine zn4 ?_) | (refine G.drt mixed fun K hK wd hxd => ?_; have hS := Sep.xx hxd) | with_reducible refine OT_leaf ?_ | (with_reducible refine OT_tail fun K2 hK2 => ?_) | (with_reducible (refine hK2 _ ?_); clear hK2 K2; intro wd hxd; have hS := Sep.xx hxd) | with_reducible refine OT_br fun K2 hK2 => ?_ | (refine hK2 _ _ ?_ ?_ <;> clear hK2 K2) | refine G.drg mixed fun K hK => ?_ | (refine G.cn ?_ ?_ <;> intro hc <;> first | (with_reducible exact False.elim hc) | (exfalso; omega) | skip))
  (have fct := (And.intro @hg @hl2); repeat' (first | ((with_reducible apply G.a); exact rfl) | refine G.reg fun K hK => ?_ | (with_reducible (refine hK _ _ ?_); clear hK K) | (with_reducible (refine hK _ ?_); clear hK K; intro wd hxd; have hS := Sep.xx hxd) | ((first | have hk := hK | have hk := hK2); clear hk; simp (disch := (first | exact dis | fail)) only [push_cast, ↓reduceIte, Nat.reduceAdd, Nat.reduceLeDiff, Nat.reduceEqDiff, Nat.reduceLT, Int.reduceToNat, fct]) | ((first | refine brO_n ?_ ?_ | refine brQ_n ?_ ?_) <;> intro hb hc <;> first | (with_reducible exact False.elim hc) | (exfalso; omega) | (simp only [hb]; clear hb)) | ((first | refine zalc ?_ | refine zbsl ?_ | ((with_reducible refine gBox ?_); refine zbox ?_)); intro gb wb hS) | ((with_reducible refine gSt ?_); refine zs2 ?_; intro wb hS) | (refine zcv ?_) | (refine zcp 28 (awake27_spec _) ?_; intro wb hS) | (refine zcp 51 (great_spec (rdN1b (l := r) (Sep.blk hS (by repeat constructor)) (hr.ext (Sep.xt (by assumption)))) (by omega) (by omega)) ?_; intro wb hS) | (refine zn3 ?_) | (refine zn4 ?_) | (refine zco 52 (iset_spec1 hd hrt (Sep.blk hS (by repeat constructor)) (Sep.rd hS (by repeat constructor)) (hr.ext (Sep.xt (by assumption))) hN hrl i hE hl hsp hL hR2 hSP2) ?_; rintro vb wb ⟨g3, v3, vs3, sv3, rfl, hl4, hS2⟩; have hS := hS2.ap; simp only [apps] at hS) | (refine G.drt mixed fun K hK wd hxd => ?_; have hS := Sep.xx hxd) | with_reducible refine OT_leaf ?_ | (with_reducible refine OT_tail fun K2 hK2 => ?_) | (with_reducible (refine hK2 _ ?_); clear hK2 K2; intro wd hxd; have hS := Sep.xx hxd) | with_reducible refine OT_br fun K2 hK2 => ?_ | (refine hK2 _ _ ?_ ?_ <;> clear hK2 K2) | refine G.drg mixed fun K hK => ?_ | (refine G.cn ?_ ?_ <;> intro hc <;> first | (with_reducible exact False.elim hc) | (exfalso; omega) | skip))) <;> (try clear fct)
  have hTl : T.length = SP.length := by rw [← hT, List.length_map]; exact hln.symm
  have hin : i < SP.length := by
    unfold setE at hE
    split at hE
    · simp at hE
    · rename_i h; rw [Classical.not_not] at h; omega
  have hl5 : vs3.length = SP.length := by rw [hl4, ← hl3, ← hSP2, ← hR2]; exact (spM_len d _).symm
  (have fct := (And.intro @hg (And.intro @hl2 (And.intro @hl3 @hl5))); repeat' (first | ((with_reducible apply G.a); exact rfl) | refine G.reg fun K hK => ?_ | (with_reducible (refine hK _ _ ?_); clear hK K) | (with_reducible (refine hK _ ?_); clear hK K; intro wd hxd; have hS := Sep.xx hxd) | ((first | have hk := hK | have hk := hK2); clear hk; simp (disch := (first | exact dis | fail)) only [push_cast, ↓reduceIte, Nat.reduceAdd, Nat.reduceLeDiff, Nat.reduceEqDiff, Nat.reduceLT, Int.reduceToNat, fct]) | ((first | refine brO_n ?_ ?_ | refine brQ_n ?_ ?_) <;> intro hb hc <;> first | (with_reducible exact False.elim hc) | (exfalso; omega) | (simp only [hb]; clear hb)) | ((first | refine zalc ?_ | refine zbsl ?_ | ((with_reducible refine gBox ?_); refine zbox ?_)); intro gb wb hS) | ((with_reducible refine gSt ?_); refine zs2 ?_; intro wb hS) | (refine zcv ?_) | (refine zcp 28 (awake27_spec _) ?_; intro wb hS) | (refine zcp 32 (itext_spec (Sep.blk hS (by repeat constructor))) ?_; intro wb hS) | (refine zcp 31 (ilen_spec (Sep.blk hS (by repeat constructor)) (Sep.rd hS (by repeat constructor))) ?_; intro wb hS) | (refine zn3 ?_) | (refine zn4 ?_) | ((with_reducible (show CallQ _ 19 [_] _ _ _ _)); refine zcq 19 (fun w2 hw2 => refD_spec d hd _) ?_) | ((with_reducible (show CallQ _ 53 [_, _, _, _, _] _ _ _ _)); refine zcq 53 (fun w2 hw2 => rset_spec1 hd ((Sep.rd hS (by repeat constructor)).ext hw2) hl2 ((Sep.rd hS (by repeat constructor)).ext hw2) ((Sep.rd hS (by repeat constructor)).ext hw2) ((hr.ext (Sep.xt (by assumption))).ext hw2) hN hrl i hE hl hsp hL) ?_) | (refine G.drt mixed fun K hK wd hxd => ?_; have hS := Sep.xx hxd) | with_reducible refine OT_leaf ?_ | (with_reducible refine OT_tail fun K2 hK2 => ?_) | (with_reducible (refine hK2 _ ?_); clear hK2 K2; intro wd hxd; have hS := Sep.xx hxd) | with_reducible refine OT_br fun K2 hK2 => ?_ | (refine hK2 _ _ ?_ ?_ <;> clear hK2 K2) | refine G.drg mixed fun K hK => ?_ | (refine G.cn ?_ ?_ <;> intro hc <;> first | (with_reducible exact False.elim hc) | (exfalso; omega) | skip))) <;> (try clear fct)
  all_goals exact isets_loop hr hTl hT2 hl3 hl2 hl5 hmb hin (Sep.sub hS (by repeat first | exact Sub.rfl' | exact Sub.n | (refine Sub.c (by repeat constructor) ?_) | refine Sub.skip ?_)) (by simp only [push_cast, ↓reduceIte, Nat.reduceAdd, Nat.reduceLeDiff, Nat.reduceEqDiff, Nat.reduceLT, Int.reduceToNat]) (by simp only [push_cast, ↓reduceIte, Nat.reduceAdd, Nat.reduceLeDiff, Nat.reduceEqDiff, Nat.reduceLT, Int.reduceToNat] <;> rfl) (by simp only [push_cast, ↓reduceIte, Nat.reduceAdd, Nat.reduceLeDiff, Nat.reduceEqDiff, Nat.reduceLT, Int.reduceToNat]) (by simp only [push_cast, ↓reduceIte, Nat.reduceAdd, Nat.reduceLeDiff, Nat.reduceEqDiff, Nat.reduceLT, Int.reduceToNat, hl2]) (by simp only [push_cast, ↓reduceIte, Nat.reduceAdd, Nat.reduceLeDiff, Nat.reduceEqDiff, Nat.reduceLT, Int.reduceToNat] <;> rfl)
end Go.Proofs.Ytdhieolfdlkeaaa
namespace Go.Proofs.Ytdhieolfdlkeaaa
set_option linter.unusedSimpArgs false
set_option linter.unusedVariables false
theorem law_isets (d : Dl) (s : Str) (i : Int) (rv : Value) (r : List Str) (w : World) (hd : byD d) (hr : Rd w eS rv r) (hi : -9223372036854775808 ≤ i ∧ i ≤ 9223372036854775807) : Pu Try.prog 15 #[(.agg #[U d.dl, U d.q, I d.e]), S s, .agg #[I i, rv]] w (.bool true) := by
  by_cases hc : 300 < s.length ∨ rightD d = false
  · exact isets_err d s i rv r w hd hr hc
  have hrt : rightD d = true := by cases h : rightD d; (exact absurd (.inr h) hc); rfl
  have hl : s.length ≤ 300 := by omega
  cases hg : greatM [r] 1 10 100 with
  | true => exact isets_great d s i rv r w hd hr hl hrt hg
  | false =>
    have h1 := hg
    rw [great_one r 10 100 (by decide)] at h1
    simp only [Bool.not_eq_false', decide_eq_true_eq] at h1
    have hN0 : ∀ f ∈ r, f.length ≤ 100 := fun f hf => by have := totL_mem hf; omega
    have hN : ∀ f ∈ r, f.length ≤ 1000000 := fun f hf => by have := hN0 f hf; omega
    have hrl : r.length ≤ 10000 := by omega
    by_cases hE : setE (spM d s).length (parM d wideL s).k i r = 0
    · have hE0 := hE
      unfold setE at hE0
      split at hE0
      · simp at hE0
      rename_i hi2
      rw [Classical.not_not] at hi2
      split at hE0
      · simp at hE0
      rename_i hk
      rw [Ne, Classical.not_not] at hk
      obtain ⟨j, rfl⟩ := Int.eq_ofNat_of_zero_le hi2.1
      have hj : j < (spM d s).length := by omega
      obtain ⟨t1, t2⟩ := set_text hd hrt s j hj hk r hE0 (fun f hf => by have := hN0 f hf; omega) (by omega)
      have hL := lineF_len d r.length (decide (j = 0)) 100 r 0 hN0
      have hL2 : r.length * (2 * 100 + 3) ≤ 10 * (2 * 100 + 3) := Nat.mul_le_mul_right _ (by omega)
      have hL3 : (lineF d r.length (decide (j = 0)) 0 r).length ≤ 500000 := by omega
      refine isets_ok d s j rv r w hd hr hl hrt hg hE hN hrl hL3 rfl rfl t1 ?_ ?_
      · rw [spM_len, spM_len, ← List.length_map (f := Prod.fst), t1, List.length_set, List.length_map]
      · intro x hx
        have := (parM_mb d wideL _ x hx).1
        have hd2 : (s.drop ((spM d s).getD j default).2).length ≤ s.length := by rw [List.length_drop]; omega
        have hd3 : (s.take ((spM d s).getD j default).1).length ≤ s.length := by rw [List.length_take]; omega
        simp only [List.length_append] at this
        omega
    · exact isets_bad d s i rv r w hd hr hl hrt hg hE hN hrl
end Go.Proofs.Ytdhieolfdlkeaaa
