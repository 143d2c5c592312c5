/- Texts of the proof, joined. -/
import Derived.Test.YtigifbjdmdcboaaqY26
namespace Go.Proofs.Ytigifbjdmdcboaa
set_option linter.unusedSimpArgs false
set_option linter.unusedVariables false
attribute [local irreducible] SemK UnitK StK AlcK BslK CallK CallV Instr.box Builtin.append_ Instr.makeSlice Instr.makeMap Instr.lookup Instr.mapUpdate Instr.sliceAt convert
open Go.RowKit
def c4 : MC := (.seq (.reg [qq 2 (.raw (.box 23 (.tmp 0)) 0), qq 4 (.mv (kb false))]) (.seq (.seq (.reg [qm 7 1, qq 8 (.lenS (.tmp 7)), qq 9 (.bin .gtr (.tmp 8) (ki 300))]) (.cond (.tmp 9) (.seq (.reg [qq 10 (.call 19 []), qm 4 10]) .ret) .skip)) (.seq (.reg [qq 12 (.ld (.some 3) (.tmp 2)), qm 13 1, qq 14 (.call 20 [(.tmp 12), (.tmp 13)]), qm 11 14, qq 15 (.ext 0 (.tmp 11)), qq 16 (.ext 1 (.tmp 11)), qm 5 15, qm 6 16]) (.seq (.seq (.reg [qq 17 (.ld (.some 3) (.tmp 2)), qq 18 (.call 10 [(.tmp 17)]), qq 19 (.call 9 [(.tmp 18)]), qq 20 (.un .not (.tmp 19))]) (.cond (.tmp 20) (.seq (.reg [qm 21 5, qq 22 (.bin .eql (.tmp 21) (ki 0)), qm 23 22, qmt 23 24 6, qt 23 25 (.bin .eql (.tmp 24) (ki 1)), qq 26 (.pick (.tmp 23) (.tmp 25) (kb false)), qm 27 26, qt 27 28 (.call 19 []), qq 29 (.pick (.tmp 27) (.tmp 28) (kb false)), qm 4 29]) .ret) .skip)) (.seq (.reg [qm 30 5, qq 31 (.ld (.some 3) (.tmp 2)), qq 32 (.call 10 [(.tmp 31)]), qm 33 1, qq 34 (.call 21 [(.tmp 32), (.tmp 33)]), qq 35 (.bin .eql (.tmp 30) (.tmp 34)), qm 36 35, qmt 36 37 6, qt 36 38 (.bin .eql (.tmp 37) (ki 0)), qq 39 (.pick (.tmp 36) (.tmp 38) (kb false)), qm 40 39, qt 40 41 (.call 19 []), qq 42 (.pick (.tmp 40) (.tmp 41) (kb false)), qm 4 42]) .ret)))))
theorem k4 : conv Try.prog 43 (Try.f4.body.getD .skip) = c4 := by kernel_rfl
theorem in4 {a0 a1 : Value} {w : World} {R : Value → World → Prop} (h : G Try.prog Try.f4 43 [.c c4] R (frL 0 [a0, a1]) w) : Ret Try.prog 4 #[a0, a1] w R := G.enter (args := [a0, a1]) Try.func4 (c := Try.f4.body.getD .skip) (by kernel_rfl) (by kernel_rfl) (by simp) k4 h
theorem law_scores (d : Dl) (s : Str) (w : World) (hd : byD d) (hs : s.length ≤ 9223372036854775807) : Pu Try.prog 4 #[(.agg #[U d.dl, U d.q, I d.e]), S s] w (.bool true) := by
  refine in4 ?_
  have hS := Sep.start w
  by_cases hlen : (s.length : Int) ≤ 300
  · have hsp := fun w => score_spec d s w (by omega)
    cases hr : rightD d
    · have es : scoR d s = 0 := by unfold scoR; rw [hr]; rfl
      rw [es, hr] at hsp
      (have fct := @hr; repeat' (first | ((with_reducible apply G.a); exact rfl) | refine G.reg fun K hK => ?_ | (with_reducible (refine hK _ _ ?_); clear hK K) | (have hk := hK; clear hk; simp (disch := first | exact dis | fail) only [push_cast, ↓reduceIte, Nat.reduceAdd, Nat.reduceLeDiff, Nat.reduceEqDiff, Nat.reduceLT, Int.reduceToNat, fct]) | (refine brO_n ?_ ?_ <;> intro hb hc <;> first | (with_reducible exact False.elim hc) | (exfalso; omega) | (simp only [hb]; clear hb)) | (((with_reducible refine gBox ?_); refine zbox ?_); intro gb wb hS) | (refine zcp 19 (awake26_spec _) ?_; intro wb hS) | (refine zcp 10 (refD_spec d hd _) ?_; intro wb hS) | (refine zcp 9 (rightR_spec d hd _) ?_; intro wb hS) | (refine zcp 20 (hsp _) ?_; intro wb hS) | (refine G.cn ?_ ?_ <;> intro hc <;> first | (with_reducible exact False.elim hc) | (exfalso; omega) | skip))) <;> (try clear fct)
      all_goals
        (first | refine G.r1 ?_ | refine G.r2 ?_ | refine G.r3 ?_ | refine G.r0 ?_ | refine G.d0 ?_); (try simp (disch := first | exact dis | fail) only [push_cast, ↓reduceIte, Nat.reduceAdd, Nat.reduceLeDiff, Nat.reduceEqDiff, Nat.reduceLT, Int.reduceToNat, fct])
        exact Sep.xt (by assumption)
    · have es : scoR d s = scoreM d s := by unfold scoR; rw [hr]; rfl
      rw [es, hr] at hsp
      have hrs := fun w => rscore_spec d hr s w (by omega)
      generalize scoreM d s = sc at *
      (have fct := @hr; repeat' (first | ((with_reducible apply G.a); exact rfl) | refine G.reg fun K hK => ?_ | (with_reducible (refine hK _ _ ?_); clear hK K) | (have hk := hK; clear hk; simp (disch := first | exact dis | fail) only [push_cast, ↓reduceIte, Nat.reduceAdd, Nat.reduceLeDiff, Nat.reduceEqDiff, Nat.reduceLT, Int.reduceToNat, fct]) | (refine brO_n ?_ ?_ <;> intro hb hc <;> first | (with_reducible exact False.elim hc) | (exfalso; omega) | (simp only [hb]; clear hb)) | (((with_reducible refine gBox ?_); refine zbox ?_); intro gb wb hS) | (refine zcp 19 (awake26_spec _) ?_; intro wb hS) | (refine zcp 10 (refD_spec d hd _) ?_; intro wb hS) | (refine zcp 9 (rightR_spec d hd _) ?_; intro wb hS) | (refine zcp 20 (hsp _) ?_; intro wb hS) | (refine zcp 21 (hrs _) ?_; intro wb hS) | (refine G.cn ?_ ?_ <;> intro hc <;> first | (with_reducible exact False.elim hc) | (exfalso; omega) | skip))) <;> (try clear fct)
      all_goals
        (first | refine G.r1 ?_ | refine G.r2 ?_ | refine G.r3 ?_ | refine G.r0 ?_ | refine G.d0 ?_); (try simp (disch := first | exact dis | fail) only [push_cast, ↓reduceIte, Nat.reduceAdd, Nat.reduceLeDiff, Nat.reduceEqDiff, Nat.reduceLT, Int.reduceToNat, fct])
        exact Sep.xt (by assumption)
  · repeat' (first | ((with_reducible apply G.a); exact rfl) | refine G.reg fun K hK => ?_ | (with_reducible (refine hK _ _ ?_); clear hK K) | (have hk := hK; clear hk; simp (disch := first | exact dis | fail) only [push_cast, ↓reduceIte, Nat.reduceAdd, Nat.reduceLeDiff, Nat.reduceEqDiff, Nat.reduceLT, Int.reduceToNat, fct]) | (refine brO_n ?_ ?_ <;> intro hb hc <;> first | (with_reducible exact False.elim hc) | (exfalso; omega) | (simp only [hb]; clear hb)) | (((with_reducible refine gBox ?_); refine zbox ?_); intro gb wb hS) | (refine zcp 19 (awake26_spec _) ?_; intro wb hS) | (refine G.cn ?_ ?_ <;> intro hc <;> first | (with_reducible exact False.elim hc) | (exfalso; omega) | skip))
    all_goals
      (first | refine G.r1 ?_ | refine G.r2 ?_ | refine G.r3 ?_ | refine G.r0 ?_ | refine G.d0 ?_); (try simp (disch := first | exact dis | fail) only [push_cast, ↓reduceIte, Nat.reduceAdd, Nat.reduceLeDiff, Nat.reduceEqDiff, Nat.reduceLT, Int.reduceToNat, fct])
      exact Sep.xt (by assumption)
attribute [local irreducible] triedL scoreM gsL
def c23l1 : MC := (.seq (.reg [qq 12 (.bin .lss (.tmp 11) (.tmp 10))]) (.seq (.cond (.tmp 12) .skip (.exit 0)) (.seq (.blk 1 (.seq (.reg [qm 13 11, qq 14 (.adr 3 (.tmp 9) (.tmp 11)), qq 15 (.ld (.some 3) (.tmp 14)), qq 7 (.alc 28 [(.int .i64 0), (.int .i64 0), (.int .i64 0)]), qm 6 13, qn (.st 3 (.tmp 7) (.tmp 15))]) (.seq (.reg [qq 16 (.ld (.some 3) (.tmp 7)), qm 17 0, qq 18 (.call 21 [(.tmp 16), (.tmp 17)]), qm 8 18]) (.seq (.reg [qm 19 8, qm 20 5, qq 21 (.bin .gtr (.tmp 19) (.tmp 20))]) (.cond (.tmp 21) (.reg [qm 22 6, qm 23 8, qm 4 22, qm 5 23]) .skip))))) (.reg [qq 24 (.bin .add (.tmp 11) (ki 1)), qm 11 24]))))
def c23 : MC := (.seq (.reg [qq 2 (.mv (ki 0)), qq 3 (.mv (ki 0))]) (.seq (.reg [qq 4 (.mv (ki 0)), qq 5 (.mv (ki 0))]) (.seq (.seq (.reg [qq 9 (.call 24 []), qq 10 (.len (.tmp 9)), qq 11 (.mv (ki 0))]) (.blk 0 (.loop c23l1))) (.seq (.reg [qm 25 4, qm 26 5, qm 2 25, qm 3 26]) .ret))))
theorem k23 : conv Try.prog 27 (Try.f23.body.getD .skip) = c23 := by kernel_rfl
theorem in23 {a0 : Value} {w : World} {R : Value → World → Prop} (h : G Try.prog Try.f23 27 [.c c23] R (frL 0 [a0]) w) : Ret Try.prog 23 #[a0] w R := G.enter (args := [a0]) Try.func23 (c := Try.f23.body.getD .skip) (by kernel_rfl) (by kernel_rfl) (by simp) k23 h
theorem rbest_spec (s : Str) (w : World) (hl : s.length ≤ 300) : Ret Try.prog 23 #[S s] w fun res w' => ∃ (k : Nat) (most : Int), RB s 24 k most ∧ res = .tuple #[I k, I most] ∧ Ext w w' := by
  refine in23 ?_
  have hS := Sep.start w
  have htl : (triedL.length : Int) = 24 := by rw [tried_len]; rfl
  (have fct := @htl; repeat' (first | ((with_reducible apply G.a); exact rfl) | refine G.reg fun K hK => ?_ | (with_reducible (refine hK _ _ ?_); clear hK K) | (have hk := hK; clear hk; simp (disch := first | exact dis | fail) only [push_cast, ↓reduceIte, Nat.reduceAdd, Nat.reduceLeDiff, Nat.reduceEqDiff, Nat.reduceLT, Int.reduceToNat, fct]) | (refine zalc ?_; intro gb wb hS) | ((with_reducible refine gSt ?_); refine zs2 ?_; intro wb hS) | (refine zco 24 (rtried_spec _) ?_; rintro vb wb hS2; have hS := hS2.ap; simp only [apps] at hS) | (refine G.cn ?_ ?_ <;> intro hc <;> first | (with_reducible exact False.elim hc) | (exfalso; omega) | skip))) <;> (try clear fct)
  refine G.loop (fun r w' => ∃ (k a : Nat) (most : Int), k ≤ 24 ∧ RB s k a most ∧ r 0 = S s ∧ r 4 = I a ∧ r 5 = I most ∧ r 9 = vb ∧ r 10 = I 24 ∧ r 11 = I k ∧ Sep w w' [accC vb 28 eDr triedL]) (fun r _ => 24 - toN (r 11)) ?_ ?_
  · have fct := @htl; exact ⟨0, 0, 0, by omega, RB.zero s, by exact sf, by exact sf, by exact sf, by exact sf, by exact sf, by exact sf, hS⟩
  · clear hS hS2
    rintro u wl ⟨k, a, most, hk, hb, q0, q4, q5, q9, q10, q11, hS⟩ ih
    have hm : toN (u 11) = k := by rw [q11]; simp [toN]
    by_cases hlt : (k : Int) < 24
    · have hmem := tried_mem k (by omega)
      have hup := hb.up (by omega)
      have hon := hb.on (by omega)
      have hrs := fun w => rscore_spec (triedL.getD k default) (tried_right _ hmem).1 s w hl
      generalize hd : triedL.getD k default = d at *
      generalize hsc : scoreM d s = sc at *
      by_cases hgt : most < sc
      · have hb2 := hup hgt
        (have fct := (And.intro @q0 (And.intro @q4 (And.intro @q5 (And.intro @q9 (And.intro @q10 (And.intro @q11 (And.intro @eDr_f @hd))))))); repeat' (first | ((with_reducible apply G.a); exact rfl) | refine G.reg fun K hK => ?_ | (with_reducible (refine hK _ _ ?_); clear hK K) | (have hk := hK; clear hk; simp (disch := first | exact dis | fail) only [push_cast, ↓reduceIte, Nat.reduceAdd, Nat.reduceLeDiff, Nat.reduceEqDiff, Nat.reduceLT, Int.reduceToNat, fct]) | (refine zalc ?_; intro gb wb hS) | ((with_reducible refine gSt ?_); refine zs2 ?_; intro wb hS) | (refine zcp 21 (hrs _) ?_; intro wb hS) | (refine G.cn ?_ ?_ <;> intro hc <;> first | (with_reducible exact False.elim hc) | (exfalso; omega) | skip))) <;> (try clear fct)
        all_goals
          have fct := (And.intro @q0 (And.intro @q4 (And.intro @q5 (And.intro @q9 (And.intro @q10 @q11))))); refine ih _ _ ⟨k + 1, k, sc, by omega, hb2, by exact sf, by exact sf, by exact sf, by exact sf, by exact sf, by exact sf, (Sep.sub hS (by repeat first | exact Sub.rfl' | exact Sub.nil0 | (refine Sub.c (by repeat constructor) ?_) | refine Sub.skip ?_))⟩ ?_
          rw [hm]; simp only [push_cast, ↓reduceIte, Nat.reduceAdd, Nat.reduceLeDiff, Nat.reduceEqDiff, Nat.reduceLT, Int.reduceToNat, toN_i, q0, q4, q5, q9, q10, q11]; omega
      · have hb2 := hon hgt
        (have fct := (And.intro @q0 (And.intro @q4 (And.intro @q5 (And.intro @q9 (And.intro @q10 (And.intro @q11 (And.intro @eDr_f @hd))))))); repeat' (first | ((with_reducible apply G.a); exact rfl) | refine G.reg fun K hK => ?_ | (with_reducible (refine hK _ _ ?_); clear hK K) | (have hk := hK; clear hk; simp (disch := first | exact dis | fail) only [push_cast, ↓reduceIte, Nat.reduceAdd, Nat.reduceLeDiff, Nat.reduceEqDiff, Nat.reduceLT, Int.reduceToNat, fct]) | (refine zalc ?_; intro gb wb hS) | ((with_reducible refine gSt ?_); refine zs2 ?_; intro wb hS) | (refine zcp 21 (hrs _) ?_; intro wb hS) | (refine G.cn ?_ ?_ <;> intro hc <;> first | (with_reducible exact False.elim hc) | (exfalso; omega) | skip))) <;> (try clear fct)
        all_goals
          have fct := (And.intro @q0 (And.intro @q4 (And.intro @q5 (And.intro @q9 (And.intro @q10 @q11))))); refine ih _ _ ⟨k + 1, a, most, by omega, hb2, by exact sf, by exact sf, by exact sf, by exact sf, by exact sf, by exact sf, (Sep.sub hS (by repeat first | exact Sub.rfl' | exact Sub.nil0 | (refine Sub.c (by repeat constructor) ?_) | refine Sub.skip ?_))⟩ ?_
          rw [hm]; simp only [push_cast, ↓reduceIte, Nat.reduceAdd, Nat.reduceLeDiff, Nat.reduceEqDiff, Nat.reduceLT, Int.reduceToNat, toN_i, q0, q4, q5, q9, q10, q11]; omega
    · have ek : k = 24 := by omega
      subst ek
      (have fct := (And.intro @q0 (And.intro @q4 (And.intro @q5 (And.intro @q9 (And.intro @q10 @q11))))); repeat' (first | ((with_reducible apply G.a); exact rfl) | refine G.reg fun K hK => ?_ | (with_reducible (refine hK _ _ ?_); clear hK K) | (have hk := hK; clear hk; simp (disch := first | exact dis | fail) only [push_cast, ↓reduceIte, Nat.reduceAdd, Nat.reduceLeDiff, Nat.reduceEqDiff, Nat.reduceLT, Int.reduceToNat, fct]) | (refine zalc ?_; intro gb wb hS) | ((with_reducible refine gSt ?_); refine zs2 ?_; intro wb hS) | (refine G.cn ?_ ?_ <;> intro hc <;> first | (with_reducible exact False.elim hc) | (exfalso; omega) | skip))) <;> (try clear fct)
      (have fct := (And.intro @q0 (And.intro @q4 (And.intro @q5 (And.intro @q9 (And.intro @q10 @q11))))); (first | refine G.r1 ?_ | refine G.r2 ?_ | refine G.r3 ?_ | refine G.r0 ?_ | refine G.d0 ?_); (try simp (disch := first | exact dis | fail) only [push_cast, ↓reduceIte, Nat.reduceAdd, Nat.reduceLeDiff, Nat.reduceEqDiff, Nat.reduceLT, Int.reduceToNat, fct]); (try clear fct))
      exact ⟨a, most, hb, rfl, Sep.xt (by assumption)⟩
def c5 : MC := (.seq (.reg [qq 2 (.mv (kb false))]) (.seq (.seq (.reg [qm 7 0, qq 8 (.lenS (.tmp 7)), qq 9 (.bin .gtr (.tmp 8) (ki 300))]) (.cond (.tmp 9) (.seq (.reg [qq 10 (.call 19 []), qm 2 10]) .ret) .skip)) (.seq (.reg [qm 12 0, qq 13 (.call 22 [(.tmp 12)]), qm 11 13, qq 14 (.ext 0 (.tmp 11)), qq 15 (.ext 1 (.tmp 11)), qq 3 (.alc 54 [(.int .u8 0), (.int .u8 0), (.int .i64 0), (.int .i64 0)]), qn (.st 4 (.tmp 3) (.tmp 14)), qm 4 15]) (.seq (.reg [qm 17 0, qq 18 (.call 23 [(.tmp 17)]), qm 16 18, qq 19 (.ext 0 (.tmp 16)), qq 20 (.ext 1 (.tmp 16)), qm 5 19, qm 6 20]) (.seq (.reg [qq 21 (.fad 0 (.tmp 3)), qq 22 (.ld (.some 3) (.tmp 21)), qq 23 (.call 10 [(.tmp 22)]), qq 24 (.call 24 []), qm 25 5, qq 26 (.adr 3 (.tmp 24) (.tmp 25)), qq 27 (.ld (.some 3) (.tmp 26)), qq 28 (.eqA false [.i, .i, .i] (.tmp 23) (.tmp 27)), qm 29 28, qt 29 30 (.fad 3 (.tmp 3)), qt 29 31 (.ld none (.tmp 30)), qmt 29 32 6, qt 29 33 (.bin .eql (.tmp 31) (.tmp 32)), qq 34 (.pick (.tmp 29) (.tmp 33) (kb false)), qm 35 34, qmt 35 36 4, qmt 35 37 6, qt 35 38 (.bin .gtr (.tmp 37) (ki 0)), qt 35 39 (.eqb false (.tmp 36) (.tmp 38)), qq 40 (.pick (.tmp 35) (.tmp 39) (kb false)), qm 41 40, qt 41 42 (.call 19 []), qq 43 (.pick (.tmp 41) (.tmp 42) (kb false)), qm 2 43]) .ret)))))
theorem k5 : conv Try.prog 44 (Try.f5.body.getD .skip) = c5 := by kernel_rfl
theorem in5 {a0 : Value} {w : World} {R : Value → World → Prop} (h : G Try.prog Try.f5 44 [.c c5] R (frL 0 [a0]) w) : Ret Try.prog 5 #[a0] w R := G.enter (args := [a0]) Try.func5 (c := Try.f5.body.getD .skip) (by kernel_rfl) (by kernel_rfl) (by simp) k5 h
theorem law_best (s : Str) (w : World) (hs : s.length ≤ 9223372036854775807) : Pu Try.prog 5 #[S s] w (.bool true) := by
  refine in5 ?_
  have hS := Sep.start w
  by_cases hlen : (s.length : Int) ≤ 300
  · have htl := tried_len
    (have fct := @eDr_f; repeat' (first | ((with_reducible apply G.a); exact rfl) | refine G.reg fun K hK => ?_ | (with_reducible (refine hK _ _ ?_); clear hK K) | (have hk := hK; clear hk; simp (disch := first | exact dis | fail) only [push_cast, ↓reduceIte, Nat.reduceAdd, Nat.reduceLeDiff, Nat.reduceEqDiff, Nat.reduceLT, Int.reduceToNat, fct]) | (refine brO_n ?_ ?_ <;> intro hb hc <;> first | (with_reducible exact False.elim hc) | (exfalso; omega) | (simp only [hb]; clear hb)) | (refine zalc ?_; intro gb wb hS) | ((with_reducible refine gSt ?_); refine zs2 ?_; intro wb hS) | (refine zcp 19 (awake26_spec _) ?_; intro wb hS) | ((with_reducible (show CallK _ 22 _ _ _ _ _)); refine zco 22 (best_spec s _ (by omega)) ?_; rintro vb wb ⟨g, hg, rfl, hx⟩; have hS := Sep.xx hx; have hgb := (tried_right g.d (by (have h := hg.1; unfold gsL at h; obtain ⟨d, hd, rfl⟩ := List.mem_map.1 h; exact hd))).2) | ((with_reducible (show CallK _ 23 _ _ _ _ _)); refine zco 23 (rbest_spec s _ (by omega)) ?_; rintro vb wb ⟨k, most, hb, rfl, hx⟩; have hS := Sep.xx hx; obtain ⟨hk, hm, hbb⟩ := hb.at'; have hge := best_one hg hbb; subst hge) | (refine zcp 10 (refD_spec _ (tried_right _ (tried_mem k hk)).2 _) ?_; intro wb hS) | (refine zco 24 (rtried_spec _) ?_; rintro vb wb hS2; have hS := hS2.ap; simp only [apps] at hS) | (refine G.cn ?_ ?_ <;> intro hc <;> first | (with_reducible exact False.elim hc) | (exfalso; omega) | skip))) <;> (try clear fct)
    all_goals
      (first | refine G.r1 ?_ | refine G.r2 ?_ | refine G.r3 ?_ | refine G.r0 ?_ | refine G.d0 ?_); (try simp (disch := first | exact dis | fail) only [push_cast, ↓reduceIte, Nat.reduceAdd, Nat.reduceLeDiff, Nat.reduceEqDiff, Nat.reduceLT, Int.reduceToNat, fct])
      exact Sep.xt (by assumption)
  · repeat' (first | ((with_reducible apply G.a); exact rfl) | refine G.reg fun K hK => ?_ | (with_reducible (refine hK _ _ ?_); clear hK K) | (have hk := hK; clear hk; simp (disch := first | exact dis | fail) only [push_cast, ↓reduceIte, Nat.reduceAdd, Nat.reduceLeDiff, Nat.reduceEqDiff, Nat.reduceLT, Int.reduceToNat, fct]) | (refine brO_n ?_ ?_ <;> intro hb hc <;> first | (with_reducible exact False.elim hc) | (exfalso; omega) | (simp only [hb]; clear hb)) | (refine zalc ?_; intro gb wb hS) | ((with_reducible refine gSt ?_); refine zs2 ?_; intro wb hS) | (refine zcp 19 (awake26_spec _) ?_; intro wb hS) | (refine G.cn ?_ ?_ <;> intro hc <;> first | (with_reducible exact False.elim hc) | (exfalso; omega) | skip))
    all_goals
      (first | refine G.r1 ?_ | refine G.r2 ?_ | refine G.r3 ?_ | refine G.r0 ?_ | refine G.d0 ?_); (try simp (disch := first | exact dis | fail) only [push_cast, ↓reduceIte, Nat.reduceAdd, Nat.reduceLeDiff, Nat.reduceEqDiff, Nat.reduceLT, Int.reduceToNat, fct])
      exact Sep.xt (by assumption)
end Go.Proofs.Ytigifbjdmdcboaa
