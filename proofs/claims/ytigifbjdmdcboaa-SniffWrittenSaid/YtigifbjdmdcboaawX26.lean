/- Texts of the proof, joined. -/
import Derived.Test.YtigifbjdmdcboaawP26
import Derived.Test.YtigifbjdmdcboaawSy
namespace Go.Proofs.Ytigifbjdmdcboaa
set_option linter.unusedSimpArgs false
set_option linter.unusedVariables false
attribute [local irreducible] SemK UnitK StK AlcK BslK CallK CallV Instr.box Builtin.append_ Instr.makeSlice Instr.makeMap Instr.lookup Instr.mapUpdate Instr.sliceAt convert
open Go.RowKit
theorem scoT_spec {d : Dl} (hd : d ∈ triedL) (s : Str) (w : World) (hl : s.length ≤ 100000) : Pu Try.prog 20 #[(.agg #[U d.dl, U d.q, I d.e]), S s] w (.tuple #[I (scoreM d s), I 0]) := by
  have h := score_spec d s w hl
  unfold scoR at h
  rw [(tried_right d hd).1] at h
  exact h
theorem gsL_take (s : Str) (k : Nat) (hk : (k : Int) < 24) : (gsL s).take (k + 1) = (gsL s).take k ++ [⟨triedL.getD k default, scoreM (triedL.getD k default) s⟩] := mapT _ triedL k (by have := tried_len; omega)
attribute [local irreducible] triedL gsL scoreM
def c25l1 : MC := (.seq (.reg [qq 11 (.bin .lss (.tmp 10) (.tmp 9))]) (.seq (.cond (.tmp 11) .skip (.exit 0)) (.seq (.blk 1 (.seq (.reg [qq 12 (.adr 3 (.tmp 8) (.tmp 10)), qq 13 (.ld (.some 3) (.tmp 12)), qq 5 (.alc 23 [(.int .u8 0), (.int .u8 0), (.int .i64 0)]), qn (.st 3 (.tmp 5) (.tmp 13))]) (.seq (.reg [qq 15 (.ld (.some 3) (.tmp 5)), qm 16 0, qq 17 (.call 20 [(.tmp 15), (.tmp 16)]), qm 14 17, qq 18 (.ext 0 (.tmp 14)), qq 19 (.ext 1 (.tmp 14)), qm 6 18, qm 7 19]) (.reg [qm 20 3, qq 21 (.ld (.some 3) (.tmp 5)), qm 22 6, qq 23 (.bld [(.int .u8 0), (.int .u8 0), (.int .i64 0), (.int .i64 0)] [⟨0, ⟨3, (.tmp 21)⟩⟩, ⟨3, ⟨1, (.tmp 22)⟩⟩]), qq 24 (.bsl 54 [(.int .u8 0), (.int .u8 0), (.int .i64 0), (.int .i64 0)] 1 [⟨0, ⟨4, (.tmp 23)⟩⟩]), qq 25 (.raw (.call ⟨(.builtin .append), #[(.tmp 20), (.tmp 24)], #[62, 62]⟩) 62), qm 3 25])))) (.reg [qq 26 (.bin .add (.tmp 10) (ki 1)), qm 10 26]))))
def c25 : MC := (.seq (.reg [qq 2 (.mv (.const (.slice none 0 0)))]) (.seq (.reg [qq 3 (.mv (.const (.slice none 0 0)))]) (.seq (.seq (.reg [qq 8 (.call 26 []), qq 9 (.len (.tmp 8)), qq 10 (.mv (ki 0))]) (.blk 0 (.loop c25l1))) (.seq (.reg [qm 27 3, qq 28 (.call 42 [(.tmp 27), (.func 43)])]) (.seq (.reg [qm 29 3, qm 2 29]) .ret)))))
theorem k25 : conv Try.prog 30 (Try.f25.body.getD .skip) = c25 := by kernel_rfl
theorem in25 {a0 : Value} {w : World} {R : Value → World → Prop} (h : G Try.prog Try.f25 30 [.c c25] R (frL 0 [a0]) w) : Ret Try.prog 25 #[a0] w R := G.enter (args := [a0]) Try.func25 (c := Try.f25.body.getD .skip) (by kernel_rfl) (by kernel_rfl) (by simp) k25 h
set_option maxHeartbeats 1000000 in
theorem all_spec (s : Str) (w : World) (hl : s.length ≤ 100000) : Ret Try.prog 25 #[S s] w fun res w' => ∃ ys, MgPost gsc gix 0 24 (gsL s) ys ∧ Sep w w' [accC res 54 eG ys] := by
  refine in25 ?_
  have hS := (Sep.start w).nil 54 eG
  have htl : (triedL.length : Int) = 24 := by rw [tried_len]; rfl
  have hgl := gs_len s
  (have fct := @htl; repeat' (first | ((with_reducible apply G.a); exact rfl) | refine G.reg fun K hK => ?_ | (with_reducible (refine hK _ _ ?_); clear hK K) | (have hk := hK; clear hk; simp (disch := first | exact dis | fail) only [push_cast, ↓reduceIte, Nat.reduceAdd, Nat.reduceLeDiff, Nat.reduceEqDiff, Nat.reduceLT, Int.reduceToNat, fct]) | ((first | refine zalc ?_ | refine zbsl ?_); intro gb wb hS) | ((with_reducible refine gSt ?_); refine zs2 ?_; intro wb hS) | (refine zco 26 (tried_spec _) ?_; rintro vb wb hS2; have hS := hS2.ap; simp only [apps] at hS) | (refine G.cn ?_ ?_ <;> intro hc <;> first | (with_reducible exact False.elim hc) | (exfalso; omega) | skip))) <;> (try clear fct)
  refine G.loop (fun r w' => ∃ (k : Nat) (lv : Value), k ≤ 24 ∧ r 0 = S s ∧ r 3 = lv ∧ r 8 = vb ∧ r 9 = I 24 ∧ r 10 = I k ∧ Sep w w' [accC lv 54 eG ((gsL s).take k), accC vb 23 eDl triedL]) (fun r _ => 24 - toN (r 10)) ?_ ?_
  · have fct := @htl; exact ⟨0, _, by omega, by exact sf, by exact sf, by exact sf, by exact sf, by exact sf, hS.sub (.c (.t .h) (.c .h .n))⟩
  · clear hS hS2
    rintro u wl ⟨k, lv, hk, q0, q3, q8, q9, q10, hS⟩ ih
    have hm : toN (u 10) = k := by rw [q10]; simp [toN]
    by_cases hlt : (k : Int) < 24
    · have hmem := tried_mem k (by omega)
      have htk := gsL_take s k hlt
      have htl2 : ((gsL s).take k).length = k := by rw [List.length_take]; omega
      generalize hd : triedL.getD k default = d at *
      have hsd := score_d s hmem
      have hsco := fun w => scoT_spec hmem s w hl
      generalize scoreM d s = sc at *
      (have fct := (And.intro @q0 (And.intro @q3 (And.intro @q8 (And.intro @q9 (And.intro @q10 (And.intro @eDl_f @hd)))))); repeat' (first | ((with_reducible apply G.a); exact rfl) | refine G.reg fun K hK => ?_ | (with_reducible (refine hK _ _ ?_); clear hK K) | (have hk := hK; clear hk; simp (disch := first | exact dis | fail) only [push_cast, ↓reduceIte, Nat.reduceAdd, Nat.reduceLeDiff, Nat.reduceEqDiff, Nat.reduceLT, Int.reduceToNat, fct]) | ((first | refine zalc ?_ | refine zbsl ?_); intro gb wb hS) | ((with_reducible refine gSt ?_); refine zs2 ?_; intro wb hS) | (refine zcp 20 (hsco _) ?_; intro wb hS) | (refine zap (y := (⟨d, sc⟩ : Gs)) ?_ (hy := by rfl); intro vb wb hS) | (refine G.cn ?_ ?_ <;> intro hc <;> first | (with_reducible exact False.elim hc) | (exfalso; omega) | skip))) <;> (try clear fct)
      all_goals
        rw [← htk] at hS
        have fct := (And.intro @q0 (And.intro @q3 (And.intro @q8 (And.intro @q9 @q10)))); refine ih _ _ ⟨k + 1, _, by omega, by exact sf, by exact sf, by exact sf, by exact sf, by exact sf, (Sep.sub hS (by repeat first | exact Sub.rfl' | exact Sub.nil0 | (refine Sub.c (by repeat constructor) ?_) | refine Sub.skip ?_))⟩ ?_
        rw [hm]; simp only [push_cast, ↓reduceIte, Nat.reduceAdd, Nat.reduceLeDiff, Nat.reduceEqDiff, Nat.reduceLT, Int.reduceToNat, toN_i, q0, q3, q8, q9, q10]; omega
    · have ek : k = 24 := by omega
      subst ek
      rw [List.take_of_length_le (by omega)] at hS
      have hS : Sep w wl [accC lv 54 eG (gsL s)] := hS.sub (.c .h .n)
      have hcc : ∀ {w2}, Sep w w2 [accC lv 54 eG (gsL s)] → _ := fun {w2} h => sortS_spec (w := w2) h (gs_bd s) hgl (gs_ix s)
      (have fct := (And.intro @q0 (And.intro @q3 (And.intro @q8 (And.intro @q9 @q10)))); repeat' (first | ((with_reducible apply G.a); exact rfl) | refine G.reg fun K hK => ?_ | (with_reducible (refine hK _ _ ?_); clear hK K) | (have hk := hK; clear hk; simp (disch := first | exact dis | fail) only [push_cast, ↓reduceIte, Nat.reduceAdd, Nat.reduceLeDiff, Nat.reduceEqDiff, Nat.reduceLT, Int.reduceToNat, fct]) | ((first | refine zalc ?_ | refine zbsl ?_); intro gb wb hS) | ((with_reducible refine gSt ?_); refine zs2 ?_; intro wb hS) | (refine zco 42 (hcc hS) ?_; rintro vc wb ⟨rfl, ys, hy, hS⟩) | (refine G.cn ?_ ?_ <;> intro hc <;> first | (with_reducible exact False.elim hc) | (exfalso; omega) | skip))) <;> (try clear fct)
      (have fct := (And.intro @q0 (And.intro @q3 (And.intro @q8 (And.intro @q9 @q10)))); (first | refine G.r1 ?_ | refine G.r2 ?_ | refine G.r3 ?_ | refine G.r0 ?_ | refine G.d0 ?_); (try simp (disch := first | exact dis | fail) only [push_cast, ↓reduceIte, Nat.reduceAdd, Nat.reduceLeDiff, Nat.reduceEqDiff, Nat.reduceLT, Int.reduceToNat, fct]); (try clear fct))
      exact ⟨ys, hy, (Sep.sub hS (by repeat first | exact Sub.rfl' | exact Sub.nil0 | (refine Sub.c (by repeat constructor) ?_) | refine Sub.skip ?_))⟩
def c22 : MC := (.seq (.reg [qq 2 (.alc 54 [(.int .u8 0), (.int .u8 0), (.int .i64 0), (.int .i64 0)]), qq 3 (.mv (kb false))]) (.seq (.reg [qm 5 0, qq 6 (.call 25 [(.tmp 5)]), qq 7 (.adr 4 (.tmp 6) (ki 0)), qq 8 (.ld (.some 4) (.tmp 7)), qq 4 (.alc 54 [(.int .u8 0), (.int .u8 0), (.int .i64 0), (.int .i64 0)]), qn (.st 4 (.tmp 4) (.tmp 8))]) (.seq (.drg [qq 9 (.ld (.some 4) (.tmp 4)), qq 10 (.fad 3 (.tmp 4)), qq 11 (.ld none (.tmp 10)), qq 12 (.bin .gtr (.tmp 11) (ki 0)), qn (.st 4 (.tmp 2) (.tmp 9)), qm 3 12] (.some (.br [qq 10 (.fad 3 (.tmp 4))] (.br [qq 9 (.ld (.some 4) (.tmp 4))] (.leaf [qq 11 (.ld none (.tmp 10)), qq 12 (.bin .gtr (.tmp 11) (ki 0)), qn (.st 4 (.tmp 2) (.tmp 9)), qm 3 12]) (.leaf [qn (.st 4 (.tmp 2) (.tmp 9)), qq 11 (.ld none (.tmp 10)), qq 12 (.bin .gtr (.tmp 11) (ki 0)), qm 3 12])) (.leaf [qq 11 (.ld none (.tmp 10)), qq 12 (.bin .gtr (.tmp 11) (ki 0)), qq 9 (.ld (.some 4) (.tmp 4)), qn (.st 4 (.tmp 2) (.tmp 9)), qm 3 12])))) .ret)))
theorem k22 : conv Try.prog 13 (Try.f22.body.getD .skip) = c22 := by kernel_rfl
theorem in22 {a0 : Value} {w : World} {R : Value → World → Prop} (h : G Try.prog Try.f22 13 [.c c22] R (frL 0 [a0]) w) : Ret Try.prog 22 #[a0] w R := G.enter (args := [a0]) Try.func22 (c := Try.f22.body.getD .skip) (by kernel_rfl) (by kernel_rfl) (by simp) k22 h
theorem best_spec (s : Str) (w : World) (hl : s.length ≤ 100000) : Ret Try.prog 22 #[S s] w fun res w' => ∃ g, IsBest s g ∧ res = .tuple #[.agg #[U g.d.dl, U g.d.q, I g.d.e, I g.sc], .bool (decide (0 < g.sc))] ∧ Ext w w' := by
  refine in22 ?_
  have hS := Sep.start w
  (have fct := @eG_f; repeat' (first | ((with_reducible apply G.a); exact rfl) | refine G.reg fun K hK => ?_ | (with_reducible (refine hK _ _ ?_); clear hK K) | (with_reducible (refine hK _ ?_); clear hK K; intro wd hxd; have hS := Sep.xx hxd) | ((first | have hk := hK | have hk := hK2); clear hk; simp (disch := first | exact dis | fail) only [push_cast, ↓reduceIte, Nat.reduceAdd, Nat.reduceLeDiff, Nat.reduceEqDiff, Nat.reduceLT, Int.reduceToNat, fct]) | (refine zalc ?_; intro gb wb hS) | ((with_reducible refine gSt ?_); refine zs2 ?_; intro wb hS) | ((with_reducible (show CallK _ 25 _ _ _ _ _)); refine zco 25 (all_spec s _ hl) ?_; rintro vb wb ⟨ys, hy, hS2⟩; have hS := hS2.ap; simp only [apps] at hS; have hyl : ys.length = 24 := by (have := hy.kept.len; rw [gs_len] at this; exact this)) | (with_reducible refine And.intro (a := OT _ _ _ _ _) (b := OT _ _ _ _ _) ?_ ?_) | (refine G.drt mixed fun K hK wd hxd => ?_; have hS := Sep.xx hxd) | with_reducible refine OT_leaf ?_ | (with_reducible (refine hK2 _ ?_); clear hK2 K2; intro wd hxd; have hS := Sep.xx hxd) | with_reducible refine OT_br fun K2 hK2 => ?_ | (refine hK2 _ _ ?_ ?_ <;> clear hK2 K2) | refine G.drg mixed fun K hK => ?_)) <;> (try clear fct)
  all_goals
    (first | refine G.r1 ?_ | refine G.r2 ?_ | refine G.r3 ?_ | refine G.r0 ?_ | refine G.d0 ?_); (try simp (disch := first | exact dis | fail) only [push_cast, ↓reduceIte, Nat.reduceAdd, Nat.reduceLeDiff, Nat.reduceEqDiff, Nat.reduceLT, Int.reduceToNat, fct])
    exact ⟨_, best_of hy, rfl, Sep.xt (by assumption)⟩
def c24l1 : MC := (.seq (.seq (.reg [qm 19 6, qq 20 (.bin .leq (.tmp 19) (ki 3))]) (.cond (.tmp 20) .skip (.exit 4))) (.seq (.blk 5 (.reg [qm 23 1, qm 24 3, qm 25 5, qm 26 6, qq 27 (.bld [(.int .i64 0), (.int .i64 0), (.int .i64 0)] [⟨0, ⟨1, (.tmp 24)⟩⟩, ⟨1, ⟨1, (.tmp 25)⟩⟩, ⟨2, ⟨1, (.tmp 26)⟩⟩]), qq 28 (.bsl 28 [(.int .i64 0), (.int .i64 0), (.int .i64 0)] 1 [⟨0, ⟨3, (.tmp 27)⟩⟩]), qq 29 (.raw (.call ⟨(.builtin .append), #[(.tmp 23), (.tmp 28)], #[59, 59]⟩) 59), qm 1 29])) (.reg [qm 21 6, qq 22 (.bin .add (.tmp 21) (ki 1)), qm 6 22])))
def c24l2 : MC := (.seq (.reg [qq 16 (.bin .lss (.tmp 15) (.tmp 14))]) (.seq (.cond (.tmp 16) .skip (.exit 2)) (.seq (.blk 3 (.seq (.reg [qq 17 (.adr 1 (.tmp 13) (.tmp 15)), qq 18 (.ld none (.tmp 17)), qm 5 18]) (.seq (.reg [qq 6 (.mv (ki 1))]) (.blk 4 (.loop c24l1))))) (.reg [qq 30 (.bin .add (.tmp 15) (ki 1)), qm 15 30]))))
def c24l3 : MC := (.seq (.reg [qq 10 (.bin .lss (.tmp 9) (.tmp 8))]) (.seq (.cond (.tmp 10) .skip (.exit 0)) (.seq (.blk 1 (.seq (.reg [qq 11 (.adr 1 (.tmp 7) (.tmp 9)), qq 12 (.ld none (.tmp 11)), qm 3 12]) (.seq (.reg [qq 13 (.bsl 3 [(.int .i64 0), (.int .i64 0)] 2 [⟨0, ⟨1, (ki 34)⟩⟩, ⟨1, ⟨1, (ki 39)⟩⟩]), qq 14 (.len (.tmp 13)), qq 15 (.mv (ki 0))]) (.blk 2 (.loop c24l2))))) (.reg [qq 31 (.bin .add (.tmp 9) (ki 1)), qm 9 31]))))
def c24 : MC := (.seq (.reg [qq 0 (.mv (.const (.slice none 0 0)))]) (.seq (.reg [qq 1 (.mv (.const (.slice none 0 0)))]) (.seq (.seq (.reg [qq 7 (.bsl 3 [(.int .i64 0), (.int .i64 0), (.int .i64 0), (.int .i64 0)] 4 [⟨0, ⟨1, (ki 44)⟩⟩, ⟨1, ⟨1, (ki 59)⟩⟩, ⟨2, ⟨1, (ki 9)⟩⟩, ⟨3, ⟨1, (ki 124)⟩⟩]), qq 8 (.len (.tmp 7)), qq 9 (.mv (ki 0))]) (.blk 0 (.loop c24l3))) (.seq (.reg [qm 32 1, qm 0 32]) .ret))))
theorem k24 : conv Try.prog 33 (Try.f24.body.getD .skip) = c24 := by kernel_rfl
theorem in24 {w : World} {R : Value → World → Prop} (h : G Try.prog Try.f24 33 [.c c24] R (frL 0 []) w) : Ret Try.prog 24 #[] w R := G.enter (args := []) Try.func24 (c := Try.f24.body.getD .skip) (by kernel_rfl) (by kernel_rfl) (by simp) k24 h
set_option maxHeartbeats 1000000 in
theorem rtried_spec (w : World) : Ret Try.prog 24 #[] w fun res w' => Sep w w' [accC res 28 eDr triedL] := by
  refine in24 ?_
  have hS := (Sep.start w).nil 28 eDr
  have htl := tried_len
  (have fct := (And.intro @isL_sl @lenV_sl); repeat' (first | ((with_reducible apply G.a); exact rfl) | refine G.reg fun K hK => ?_ | (with_reducible (refine hK _ _ ?_); clear hK K) | (have hk := hK; clear hk; simp (disch := first | exact dis | fail) only [push_cast, ↓reduceIte, Nat.reduceAdd, Nat.reduceLeDiff, Nat.reduceEqDiff, Nat.reduceLT, Int.reduceToNat, fct]) | (refine zbsl ?_; intro gb wb hS) | (refine G.cn ?_ ?_ <;> intro hc <;> first | (with_reducible exact False.elim hc) | (exfalso; omega) | skip))) <;> (try clear fct)
  refine G.loop (fun r w' => ∃ (k g1 : Nat) (l : Value), k ≤ 4 ∧ r 1 = l ∧ r 7 = .slice (some ⟨g1, 0, none⟩) 4 4 ∧ r 8 = I 4 ∧ r 9 = I k ∧ Sep w w' [accC l 28 eDr (triedL.take (6 * k)), boxC g1 3 [I 44, I 59, I 9, I 124]]) (fun r _ => 4 - toN (r 9)) ?_ ?_
  · exact ⟨0, _, _, by omega, by exact sf, by exact sf, by exact sf, by exact sf, (Sep.sub hS (by repeat first | exact Sub.rfl' | exact Sub.nil0 | (refine Sub.c (by repeat constructor) ?_) | refine Sub.skip ?_))⟩
  · clear hS
    rintro u wl ⟨k, g1, l, hk, q1, q7, q8, q9, hS⟩ ih
    have hm : toN (u 9) = k := by rw [q9]; simp [toN]
    by_cases hlt : (k : Int) < 4
    · have hr1 : Rd wl eI (.slice (some ⟨g1, 0, none⟩) 4 4) dlsL := rd_of eI dlsL (Sep.blk hS (.t .h)) rfl (by decide) (by simp [dlsL, eI, one_i])
      have hl1 : dlsL.length = 4 := rfl
      (have fct := (And.intro @q1 (And.intro @q7 (And.intro @q8 (And.intro @q9 (And.intro @isL_sl @lenV_sl))))); repeat' (first | ((with_reducible apply G.a); exact rfl) | refine G.reg fun K hK => ?_ | (with_reducible (refine hK _ _ ?_); clear hK K) | (have hk := hK; clear hk; simp (disch := first | exact dis | fail) only [push_cast, ↓reduceIte, Nat.reduceAdd, Nat.reduceLeDiff, Nat.reduceEqDiff, Nat.reduceLT, Int.reduceToNat, fct]) | (refine zbsl ?_; intro gb wb hS) | (refine G.cn ?_ ?_ <;> intro hc <;> first | (with_reducible exact False.elim hc) | (exfalso; omega) | skip))) <;> (try clear fct)
      refine G.loop (fun r w' => ∃ (j g2 : Nat) (l : Value), j ≤ 2 ∧ r 1 = l ∧ r 3 = I (dlsL.getD k default) ∧ r 7 = .slice (some ⟨g1, 0, none⟩) 4 4 ∧ r 8 = I 4 ∧ r 9 = I k ∧ r 13 = .slice (some ⟨g2, 0, none⟩) 2 2 ∧ r 14 = I 2 ∧ r 15 = I j ∧ Sep w w' [accC l 28 eDr (triedL.take (6 * k + 3 * j)), boxC g1 3 [I 44, I 59, I 9, I 124], boxC g2 3 [I 34, I 39]]) (fun r _ => 2 - toN (r 15)) ?_ ?_
      · have fct := (And.intro @q1 (And.intro @q7 (And.intro @q8 @q9))); exact ⟨0, _, _, by omega, by exact sf, by exact sf, by exact sf, by exact sf, by exact sf, by exact sf, by exact sf, by exact sf, (Sep.sub hS (by repeat first | exact Sub.rfl' | exact Sub.nil0 | (refine Sub.c (by repeat constructor) ?_) | refine Sub.skip ?_))⟩
      · clear hS q1 q7 q8 q9
        rintro u2 wl2 ⟨j, g2, l, hj, q1, q3, q7, q8, q9, q13, q14, q15, hS⟩ ih2
        have hm2 : toN (u2 15) = j := by rw [q15]; simp [toN]
        by_cases hlt2 : (j : Int) < 2
        · have hr2 : Rd wl2 eI (.slice (some ⟨g2, 0, none⟩) 2 2) qsL := rd_of eI qsL (Sep.blk hS (.t (.t .h))) rfl (by decide) (by simp [qsL, eI, one_i])
          have hl2 : qsL.length = 2 := rfl
          (have fct := (And.intro @q1 (And.intro @q3 (And.intro @q7 (And.intro @q8 (And.intro @q9 (And.intro @q13 (And.intro @q14 (And.intro @q15 (And.intro @isL_sl @lenV_sl))))))))); repeat' (first | ((with_reducible apply G.a); exact rfl) | refine G.reg fun K hK => ?_ | (with_reducible (refine hK _ _ ?_); clear hK K) | (have hk := hK; clear hk; simp (disch := first | exact dis | fail) only [push_cast, ↓reduceIte, Nat.reduceAdd, Nat.reduceLeDiff, Nat.reduceEqDiff, Nat.reduceLT, Int.reduceToNat, fct]) | (refine zbsl ?_; intro gb wb hS) | (refine G.cn ?_ ?_ <;> intro hc <;> first | (with_reducible exact False.elim hc) | (exfalso; omega) | skip))) <;> (try clear fct)
          refine G.loop (fun r w' => ∃ (i : Nat) (l : Value), i ≤ 3 ∧ r 1 = l ∧ r 3 = I (dlsL.getD k default) ∧ r 5 = I (qsL.getD j default) ∧ r 6 = I ((i : Int) + 1) ∧ r 7 = .slice (some ⟨g1, 0, none⟩) 4 4 ∧ r 8 = I 4 ∧ r 9 = I k ∧ r 13 = .slice (some ⟨g2, 0, none⟩) 2 2 ∧ r 14 = I 2 ∧ r 15 = I j ∧
            Sep w w' [accC l 28 eDr (triedL.take (6 * k + 3 * j + i)), boxC g1 3 [I 44, I 59, I 9, I 124], boxC g2 3 [I 34, I 39]]) (fun r _ => 4 - toN (r 6)) ?_ ?_
          · have fct := (And.intro @q1 (And.intro @q3 (And.intro @q7 (And.intro @q8 (And.intro @q9 (And.intro @q13 (And.intro @q14 @q15))))))); exact ⟨0, _, by omega, by exact sf, by exact sf, by exact sf, by exact sf, by exact sf, by exact sf, by exact sf, by exact sf, by exact sf, by exact sf, (Sep.sub hS (by repeat first | exact Sub.rfl' | exact Sub.nil0 | (refine Sub.c (by repeat constructor) ?_) | refine Sub.skip ?_))⟩
          · clear hS q1 q3 q7 q8 q9 q13 q14 q15
            rintro u3 wl3 ⟨i, l, hi, q1, q3, q5, q6, q7, q8, q9, q13, q14, q15, hS⟩ ih3
            have hm3 : toN (u3 6) = i + 1 := by rw [q6]; simp [toN]
            by_cases hlt3 : (i : Int) < 3
            · have hst := tried_step (k := k) (j := j) (i := i) (by omega) (by omega) (by omega)
              rw [esL_at i (by omega)] at hst
              (have fct := (And.intro @q1 (And.intro @q3 (And.intro @q5 (And.intro @q6 (And.intro @q7 (And.intro @q8 (And.intro @q9 (And.intro @q13 (And.intro @q14 @q15))))))))); repeat' (first | ((with_reducible apply G.a); exact rfl) | refine G.reg fun K hK => ?_ | (with_reducible (refine hK _ _ ?_); clear hK K) | (have hk := hK; clear hk; simp (disch := first | exact dis | fail) only [push_cast, ↓reduceIte, Nat.reduceAdd, Nat.reduceLeDiff, Nat.reduceEqDiff, Nat.reduceLT, Int.reduceToNat, fct]) | (refine zbsl ?_; intro gb wb hS) | (refine zap (y := (⟨dlsL.getD k default, qsL.getD j default, (i : Int) + 1⟩ : Dl)) ?_ (hy := by rfl); intro vb wb hS) | (refine G.cn ?_ ?_ <;> intro hc <;> first | (with_reducible exact False.elim hc) | (exfalso; omega) | skip))) <;> (try clear fct)
              all_goals
                rw [hst] at hS
                have fct := (And.intro @q1 (And.intro @q3 (And.intro @q5 (And.intro @q6 (And.intro @q7 (And.intro @q8 (And.intro @q9 (And.intro @q13 (And.intro @q14 @q15))))))))); refine ih3 _ _ ⟨i + 1, _, by omega, by exact sf, by exact sf, by exact sf, by exact sf, by exact sf, by exact sf, by exact sf, by exact sf, by exact sf, by exact sf, (Sep.sub hS (by repeat first | exact Sub.rfl' | exact Sub.nil0 | (refine Sub.c (by repeat constructor) ?_) | refine Sub.skip ?_))⟩ ?_
                rw [hm3]; simp only [push_cast, ↓reduceIte, Nat.reduceAdd, Nat.reduceLeDiff, Nat.reduceEqDiff, Nat.reduceLT, Int.reduceToNat, toN_i, q1, q3, q5, q6, q7, q8, q9, q13, q14, q15]; omega
            · have ei : i = 3 := by omega
              subst ei
              (have fct := (And.intro @q1 (And.intro @q3 (And.intro @q5 (And.intro @q6 (And.intro @q7 (And.intro @q8 (And.intro @q9 (And.intro @q13 (And.intro @q14 @q15))))))))); repeat' (first | ((with_reducible apply G.a); exact rfl) | refine G.reg fun K hK => ?_ | (with_reducible (refine hK _ _ ?_); clear hK K) | (have hk := hK; clear hk; simp (disch := first | exact dis | fail) only [push_cast, ↓reduceIte, Nat.reduceAdd, Nat.reduceLeDiff, Nat.reduceEqDiff, Nat.reduceLT, Int.reduceToNat, fct]) | (refine zbsl ?_; intro gb wb hS) | (refine G.cn ?_ ?_ <;> intro hc <;> first | (with_reducible exact False.elim hc) | (exfalso; omega) | skip))) <;> (try clear fct)
              all_goals
                have fct := (And.intro @q1 (And.intro @q3 (And.intro @q5 (And.intro @q6 (And.intro @q7 (And.intro @q8 (And.intro @q9 (And.intro @q13 (And.intro @q14 @q15))))))))); refine ih2 _ _ ⟨j + 1, g2, _, by omega, by exact sf, by exact sf, by exact sf, by exact sf, by exact sf, by exact sf, by exact sf, by exact sf, by rw [show 6 * k + 3 * (j + 1) = 6 * k + 3 * j + 3 from by omega]; exact (Sep.sub hS (by repeat first | exact Sub.rfl' | exact Sub.nil0 | (refine Sub.c (by repeat constructor) ?_) | refine Sub.skip ?_))⟩ ?_
                rw [hm2]; simp only [push_cast, ↓reduceIte, Nat.reduceAdd, Nat.reduceLeDiff, Nat.reduceEqDiff, Nat.reduceLT, Int.reduceToNat, toN_i, q1, q3, q5, q6, q7, q8, q9, q13, q14, q15]; omega
        · have ej : j = 2 := by omega
          subst ej
          (have fct := (And.intro @q1 (And.intro @q3 (And.intro @q7 (And.intro @q8 (And.intro @q9 (And.intro @q13 (And.intro @q14 @q15))))))); repeat' (first | ((with_reducible apply G.a); exact rfl) | refine G.reg fun K hK => ?_ | (with_reducible (refine hK _ _ ?_); clear hK K) | (have hk := hK; clear hk; simp (disch := first | exact dis | fail) only [push_cast, ↓reduceIte, Nat.reduceAdd, Nat.reduceLeDiff, Nat.reduceEqDiff, Nat.reduceLT, Int.reduceToNat, fct]) | (refine zbsl ?_; intro gb wb hS) | (refine G.cn ?_ ?_ <;> intro hc <;> first | (with_reducible exact False.elim hc) | (exfalso; omega) | skip))) <;> (try clear fct)
          all_goals
            have fct := (And.intro @q1 (And.intro @q3 (And.intro @q7 (And.intro @q8 (And.intro @q9 (And.intro @q13 (And.intro @q14 @q15))))))); refine ih _ _ ⟨k + 1, g1, _, by omega, by exact sf, by exact sf, by exact sf, by exact sf, by rw [show 6 * (k + 1) = 6 * k + 3 * 2 from by omega]; exact (Sep.sub hS (by repeat first | exact Sub.rfl' | exact Sub.nil0 | (refine Sub.c (by repeat constructor) ?_) | refine Sub.skip ?_))⟩ ?_
            rw [hm]; simp only [push_cast, ↓reduceIte, Nat.reduceAdd, Nat.reduceLeDiff, Nat.reduceEqDiff, Nat.reduceLT, Int.reduceToNat, toN_i, q1, q3, q7, q8, q9, q13, q14, q15]; omega
    · have ek : k = 4 := by omega
      subst ek
      have et : triedL.take (6 * 4) = triedL := List.take_of_length_le (by omega)
      rw [et] at hS
      (have fct := (And.intro @q1 (And.intro @q7 (And.intro @q8 @q9))); repeat' (first | ((with_reducible apply G.a); exact rfl) | refine G.reg fun K hK => ?_ | (with_reducible (refine hK _ _ ?_); clear hK K) | (have hk := hK; clear hk; simp (disch := first | exact dis | fail) only [push_cast, ↓reduceIte, Nat.reduceAdd, Nat.reduceLeDiff, Nat.reduceEqDiff, Nat.reduceLT, Int.reduceToNat, fct]) | (refine zbsl ?_; intro gb wb hS) | (refine G.cn ?_ ?_ <;> intro hc <;> first | (with_reducible exact False.elim hc) | (exfalso; omega) | skip))) <;> (try clear fct)
      (have fct := (And.intro @q1 (And.intro @q7 (And.intro @q8 @q9))); (first | refine G.r1 ?_ | refine G.r2 ?_ | refine G.r3 ?_ | refine G.r0 ?_ | refine G.d0 ?_); (try simp (disch := first | exact dis | fail) only [push_cast, ↓reduceIte, Nat.reduceAdd, Nat.reduceLeDiff, Nat.reduceEqDiff, Nat.reduceLT, Int.reduceToNat, fct]); (try clear fct))
      exact (Sep.sub hS (by repeat first | exact Sub.rfl' | exact Sub.nil0 | (refine Sub.c (by repeat constructor) ?_) | refine Sub.skip ?_))
end Go.Proofs.Ytigifbjdmdcboaa
