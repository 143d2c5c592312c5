/- Texts of the proof, joined. -/
import Derived.Test.YtdikpaochhacmaauAy
namespace Go.Proofs.Ytdikpaochhacmaa
set_option linter.unusedSimpArgs false
set_option linter.unusedVariables false
attribute [local irreducible] SemK UnitK StK AlcK BslK CallK CallV Instr.box Builtin.append_ Instr.makeSlice Instr.makeMap Instr.lookup Instr.mapUpdate Instr.sliceAt convert
open Go.RowKit
theorem goN_last {go : List (List Str) → Bool} {xss : List (List Str)} (h : (goN go [] xss).2 = false) (h0 : go [] = true) : go xss = true := by
  rcases List.eq_nil_or_concat xss with rfl | ⟨ys, y, rfl⟩
  · exact h0
  · rw [List.concat_eq_append] at h ⊢
    rw [goN_app] at h
    by_cases h2 : (goN go [] ys).2 = true
    · rw [if_pos h2, h2] at h; cases h
    · rw [if_neg h2, goN_all go ys [] (by simpa using h2), goN, List.nil_append] at h
      by_cases h3 : go (ys ++ [y]) = true
      · exact h3
      · rw [if_neg h3] at h; cases h
theorem goN_lim {m : Int} : ∀ (xs acc : List (List Str)), (acc.length : Int) ≤ m → (((goN (fun xss => decide ((xss.length : Int) ≤ m)) acc xs).1.length : Nat) : Int) = (min ((acc.length : Int) + xs.length) (m + 1) : Int)
  | [], acc, h => by rw [goN]; simp; omega
  | r :: xs, acc, h => by
    rw [goN]
    by_cases h2 : (acc.length : Int) + 1 ≤ m
    · rw [if_pos (by simpa using h2), goN_lim xs (acc ++ [r]) (by simpa using h2)]
      simp only [List.length_append, List.length_cons, List.length_nil]
      omega
    · rw [if_neg (by simpa using h2)]
      simp only [List.length_append, List.length_cons, List.length_nil]
      omega
def c3 : MC := (.seq (.reg [qq 3 (.raw (.box 23 (.tmp 0)) 0), qq 5 (.raw (.box 5 (.tmp 2)) 0), qq 6 (.alc 4 [(.bool false)])]) (.seq (.seq (.reg [qm 13 1, qq 14 (.lenS (.tmp 13)), qq 15 (.bin .gtr (.tmp 14) (ki 300))]) (.cond (.tmp 15) (.seq (.reg [qq 16 (.call 6 []), qn (.st 1 (.tmp 6) (.tmp 16))]) .ret) .skip)) (.seq (.reg [qq 17 (.bld [(.int .i64 0), (.int .i64 0), (.int .i64 0), (.bool false)] [⟨0, ⟨1, (ki 2147483648)⟩⟩, ⟨1, ⟨1, (ki 2147483648)⟩⟩, ⟨2, ⟨1, (ki 2147483648)⟩⟩]), qq 7 (.alc 26 [(.int .i64 0), (.int .i64 0), (.int .i64 0), (.bool false)]), qn (.st 4 (.tmp 7) (.tmp 17))]) (.seq (.reg [qq 19 (.ld (.some 3) (.tmp 3)), qq 20 (.ld (.some 4) (.tmp 7)), qm 21 1, qq 22 (.call 7 [(.tmp 19), (.tmp 20), (.tmp 21)]), qm 18 22, qq 23 (.ext 0 (.tmp 18)), qq 24 (.ext 1 (.tmp 18)), qq 8 (.alc 27 [(.slice none 0 0)]), qq 9 (.alc 30 [(.int .i64 0), (.int .i64 0)]), qn (.st 1 (.tmp 8) (.tmp 23)), qn (.st 2 (.tmp 9) (.tmp 24))]) (.seq (.reg [qq 25 (.ld (.some 3) (.tmp 3)), qq 26 (.ld (.some 4) (.tmp 7)), qm 27 1, qq 28 (.call 8 [(.tmp 25), (.tmp 26), (.tmp 27)]), qm 10 28]) (.seq (.seq (.drg [qq 29 (.ld (.some 3) (.tmp 3)), qq 30 (.ld (.some 4) (.tmp 7)), qm 31 1, qq 32 (.call 9 [(.tmp 29), (.tmp 30), (.tmp 31)]), qq 33 (.ld (.some 2) (.tmp 9)), qq 34 (.eqA true [.i, .i] (.tmp 32) (.tmp 33)), qm 35 34, qf 35 36 (.ld (.some 3) (.tmp 3)), qmf 35 37 1, qf 35 38 (.call 10 [(.tmp 36), (.tmp 37)]), qf 35 39 (.ld (.some 2) (.tmp 9)), qf 35 40 (.bld [(.int .i64 0), (.int .i64 0)] []), qf 35 41 (.eqA false [.i, .i] (.tmp 39) (.tmp 40)), qf 35 42 (.eqb true (.tmp 38) (.tmp 41)), qq 43 (.pick (.tmp 35) (kb true) (.tmp 42)), qm 44 43, qmf 44 45 10, qf 44 46 (.raw (.binOp .eql 34 (.tmp 45) (.const .nilFunc) 34) 4), qq 47 (.pick (.tmp 44) (kb true) (.tmp 46))] (.some (.tail [qq 29 (.ld (.some 3) (.tmp 3)), qq 30 (.ld (.some 4) (.tmp 7)), qm 31 1, qq 32 (.call 9 [(.tmp 29), (.tmp 30), (.tmp 31)]), qq 33 (.ld (.some 2) (.tmp 9)), qq 34 (.eqA true [.i, .i] (.tmp 32) (.tmp 33)), qm 35 34, qf 35 36 (.ld (.some 3) (.tmp 3)), qmf 35 37 1, qf 35 38 (.call 10 [(.tmp 36), (.tmp 37)]), qf 35 39 (.ld (.some 2) (.tmp 9)), qf 35 40 (.bld [(.int .i64 0), (.int .i64 0)] []), qf 35 41 (.eqA false [.i, .i] (.tmp 39) (.tmp 40)), qf 35 42 (.eqb true (.tmp 38) (.tmp 41)), qq 43 (.pick (.tmp 35) (kb true) (.tmp 42)), qm 44 43, qmf 44 45 10] [qf 44 46 (.raw (.binOp .eql 34 (.tmp 45) (.const .nilFunc) 34) 4), qq 47 (.pick (.tmp 44) (kb true) (.tmp 46))]))) (.cond (.tmp 47) (.seq (.reg [qn (.st 1 (.tmp 6) (kb false))]) .ret) .skip)) (.seq (.reg [qq 11 (.alc 3 [(.int .i64 0)]), qn (.st 1 (.tmp 11) (ki 0))]) (.seq (.seq (.reg [qm 48 10]) (.blk 0 (.rng (.tmp 48) [49] (.reg [qm 12 49]) (.blk 1 (.seq (.seq (.reg [qq 50 (.ld none (.tmp 11)), qq 51 (.ld none (.tmp 8)), qq 52 (.len (.tmp 51)), qq 53 (.bin .geq (.tmp 50) (.tmp 52)), qm 54 53, qmf 54 55 12, qf 54 56 (.ld none (.tmp 8)), qf 54 57 (.ld none (.tmp 11)), qf 54 58 (.adr 1 (.tmp 56) (.tmp 57)), qf 54 59 (.ld none (.tmp 58)), qf 54 60 (.call 11 [(.tmp 55), (.tmp 59)]), qf 54 61 (.un .not (.tmp 60)), qq 62 (.pick (.tmp 54) (kb true) (.tmp 61))]) (.cond (.tmp 62) (.seq (.reg [qn (.st 1 (.tmp 6) (kb false))]) .ret) .skip)) (.seq (.reg [qq 63 (.ld none (.tmp 11)), qq 64 (.bin .add (.tmp 63) (ki 1)), qn (.st 1 (.tmp 11) (.tmp 64))]) (.seq (.reg [qq 65 (.ld none (.tmp 11)), qq 66 (.ld none (.tmp 5)), qq 67 (.cvi .i64 (.tmp 66)), qq 68 (.bin .gtr (.tmp 65) (.tmp 67))]) (.cond (.tmp 68) (.exit 0) .skip)))))))) (.seq (.reg [qq 69 (.ld none (.tmp 11)), qq 70 (.ld none (.tmp 8)), qq 71 (.len (.tmp 70)), qq 72 (.ld none (.tmp 5)), qq 73 (.cvi .i64 (.tmp 72)), qq 74 (.bin .add (.tmp 73) (ki 1)), qq 75 (.raw (.call ⟨(.builtin .min), #[(.tmp 71), (.tmp 74)], #[3, 3]⟩) 3), qq 76 (.bin .eql (.tmp 69) (.tmp 75)), qm 77 76, qt 77 78 (.call 6 []), qq 79 (.pick (.tmp 77) (.tmp 78) (kb false)), qn (.st 1 (.tmp 6) (.tmp 79))]) .ret)))))))))
theorem k3 : conv Try.prog 80 (Try.f3.body.getD .skip) = c3 := by kernel_rfl
set_option maxHeartbeats 1000000 in
theorem law_wtells (d : Dl) (s : Str) (m : Int) (w : World) (hm : 0 ≤ m ∧ m ≤ 255) (hs : s.length ≤ 9223372036854775807) : Pu Try.prog 3 #[(.agg #[U d.dl, U d.q, I d.e]), S s, U m] w (.bool true) := by
  refine Y.enter (m := c3) (args := [(.agg #[U d.dl, U d.q, I d.e]), S s, U m]) Try.func3 (c := Try.f3.body.getD .skip) (by kernel_rfl) (by kernel_rfl) (by simp) k3 ?_
  have hS := Sep.start w
  by_cases hlen : (s.length : Int) ≤ 300
  · obtain ⟨R, hR⟩ : ∃ R, walkM d wideL s = R := ⟨_, rfl⟩
    have hp := fun w => parse_spec2 d wideL s w (by omega) hR
    have hq : ∀ w, Pu Try.prog 10 #[(.agg #[U d.dl, U d.q, I d.e]), S s] w (.bool (R.k == 0 && (R.a : Int) == 0)) := by
      intro w
      have h := parses_spec d s w (by omega) hR
      rwa [show decide (R.k = 0 ∧ R.a = 0) = (R.k == 0 && (R.a : Int) == 0) by rw [Bool.eq_iff_iff]; simp] at h
    have hf := fun w => first_spec d wideL s w (by omega)
    rw [hR] at hf
    repeat' (first | ((with_reducible apply Y.a); exact rfl) | refine Y.reg fun K hK => ?_ | (with_reducible (refine hK _ _ ?_); clear hK K) | (with_reducible (refine hK _ ?_); clear hK K; intro wd hxd; have hS := Sep.xx hxd) | ((first | have hk := hK | have hk := hK2); clear hk; simp (disch := first | exact dis | fail) only [push_cast, ↓reduceIte, Nat.reduceAdd, Nat.reduceLeDiff, Nat.reduceEqDiff, Nat.reduceLT, Int.reduceToNat, fct]) | ((first | refine brO_n ?_ ?_ | refine brQ_n ?_ ?_) <;> intro hb hc <;> first | (with_reducible exact False.elim hc) | (exfalso; omega) | (simp only [hb]; clear hb)) | ((first | refine zalc ?_ | refine zbsl ?_ | ((with_reducible refine gBox ?_); refine zbox ?_)); intro gb wb hS) | ((with_reducible refine gSt ?_); refine zs2 ?_; intro wb hS) | (refine zcv ?_) | (refine zcp 6 (awake6_spec _) ?_; intro wb hS) | (refine zco 7 (hp _) ?_; rintro vb wb ⟨v, vs, rfl, hvl, hS2⟩; have hS := hS2.ap; simp only [apps] at hS) | (refine zco 8 (records_spec d wideL s _) ?_; rintro vb wb ⟨g3, g4, g5, rfl, hS2⟩; have hS := hS2.ap; simp only [apps] at hS) | (refine zcq 9 (fun w2 hw2 => hf w2) ?_) | (refine zcq 10 (fun w2 hw2 => hq w2) ?_) | (refine zfn ?_) | (refine Y.drt mixed fun K hK wd hxd => ?_; have hS := Sep.xx hxd) | with_reducible refine OT_leaf ?_ | (with_reducible refine OT_tail fun K2 hK2 => ?_) | (with_reducible (refine hK2 _ ?_); clear hK2 K2; intro wd hxd; have hS := Sep.xx hxd) | with_reducible refine OT_br fun K2 hK2 => ?_ | (refine hK2 _ _ ?_ ?_ <;> clear hK2 K2) | refine Y.drg mixed fun K hK => ?_ | (refine Y.cn ?_ ?_ <;> intro hc <;> first | (with_reducible exact False.elim hc) | (exfalso; omega) | skip))
    all_goals
      generalize hT0 : R.rs.map (fun x => x.1) = T at hS
      have hvt : vs.length = T.length := by rw [← hT0, List.length_map]; exact hvl
      refine Y.gen (fun r w' => ∃ (g3 g4 g5 gF gT gL gR gm gd gN : Nat), r 48 = .func (.func 22) #[] #[.pointer (some ⟨g3, 0, none⟩), .pointer (some ⟨g4, 0, none⟩), .pointer (some ⟨g5, 0, none⟩)] ∧ r 5 = .pointer (some ⟨gm, 0, none⟩) ∧ r 6 = .pointer (some ⟨gR, 0, none⟩) ∧ r 8 = .pointer (some ⟨gT, 0, none⟩) ∧ r 11 = .pointer (some ⟨gN, 0, none⟩) ∧
        Sep w w' [boxC gN 3 [I 0], boxC g3 23 [U d.dl, U d.q, I d.e], boxC g4 26 [I wideL.F, I wideL.N, I wideL.R, .bool wideL.U], boxC g5 9 [S s], boxC gT 27 [v], accC v 38 eV vs, frzC eS vs T, boxC gR 4 [.bool false], boxC gm 5 [U m]]) ⟨_, _, _, 0, _, 0, _, _, 0, _, (by simp only [push_cast, ↓reduceIte, Nat.reduceAdd, Nat.reduceLeDiff, Nat.reduceEqDiff, Nat.reduceLT, Int.reduceToNat]; rfl), (by simp only [push_cast, ↓reduceIte, Nat.reduceAdd, Nat.reduceLeDiff, Nat.reduceEqDiff, Nat.reduceLT, Int.reduceToNat]; rfl), (by simp only [push_cast, ↓reduceIte, Nat.reduceAdd, Nat.reduceLeDiff, Nat.reduceEqDiff, Nat.reduceLT, Int.reduceToNat]; rfl), (by simp only [push_cast, ↓reduceIte, Nat.reduceAdd, Nat.reduceLeDiff, Nat.reduceEqDiff, Nat.reduceLT, Int.reduceToNat]; rfl), (by simp only [push_cast, ↓reduceIte, Nat.reduceAdd, Nat.reduceLeDiff, Nat.reduceEqDiff, Nat.reduceLT, Int.reduceToNat]; rfl), (Sep.sub hS (by repeat first | exact Sub.rfl' | exact Sub.nil0 | (refine Sub.c (by repeat constructor) ?_) | refine Sub.skip ?_))⟩ ?_
      clear hS hS2 hp hq hf
      rintro u wb ⟨g3, g4, g5, gF, gT, gL, gR, gm, gd, gN, q48, q5, q6, q8, q11, hS⟩
      refine Y.rng q48 (by kernel_rfl) ?_
      intro fn tm asg bod hA hB hrel
      have hS := (hS.newO (.deferred (some []))).newO (.loop (recL .ready none fn tm [49].toArray asg bod wb.heap.size))
      rw [World.size_alloc] at hS
      generalize (wb.alloc (.deferred (some []))).alloc (.loop (recL .ready none fn tm [49].toArray asg bod wb.heap.size)) = W1 at hS ⊢
      generalize wb.heap.size = b at hS ⊢
      have hT : TakeY (.func (.yield (b + 1)) #[] #[]) T (fun xss L => ∃ st pe, ((xss.length : Int) ≤ m → st = .ready ∧ pe = none) ∧ (m < (xss.length : Int) → st = .done ∧ pe = some (.exit 0)) ∧ L = objC (b + 1) (.loop (recL st pe fn tm [49].toArray asg bod b)) :: boxC gN 3 [I xss.length] :: [boxC g3 23 [U d.dl, U d.q, I d.e], boxC g4 26 [I wideL.F, I wideL.N, I wideL.R, .bool wideL.U], boxC g5 9 [S s], boxC gT 27 [v], accC v 38 eV vs, frzC eS vs T, boxC gR 4 [.bool false], boxC gm 5 [U m], objC b (.deferred (some []))]) (fun xss => decide ((xss.length : Int) ≤ m)) := by
        refine ⟨?_⟩
        rintro xss r rv w0 w1 M L d' ρ' next ⟨st, pe, h1, h2, rfl⟩ hgo hpre hS k
        have hle := goN_last hgo (by simpa using hm.1)
        simp only [decide_eq_true_eq] at hle
        obtain ⟨rfl, rfl⟩ := h1 hle
        have hS : Sep w0 w1 (accC rv 9 eS r :: objC (b + 1) (.loop (recL .ready none fn tm [49].toArray asg bod b)) :: boxC gN 3 [I xss.length] :: ([boxC g3 23 [U d.dl, U d.q, I d.e], boxC g4 26 [I wideL.F, I wideL.N, I wideL.R, .bool wideL.U], boxC g5 9 [S s], boxC gT 27 [v], accC v 38 eV vs, frzC eS vs T, boxC gR 4 [.bool false], boxC gm 5 [U m], objC b (.deferred (some []))] ++ M)) := hS.sub (.c .h (sub_comm M (objC (b + 1) (.loop (recL .ready none fn tm [49].toArray asg bod b)) :: boxC gN 3 [I xss.length]   :: [boxC g3 23 [U d.dl, U d.q, I d.e], boxC g4 26 [I wideL.F, I wideL.N, I wideL.R, .bool wideL.U], boxC g5 9 [S s], boxC gT 27 [v], accC v 38 eV vs, frzC eS vs T, boxC gR 4 [.bool false], boxC gm 5 [U m], objC b (.deferred (some []))])))
        simp only [List.cons_append, List.nil_append] at hS
        have hlt : xss.length < T.length := by obtain ⟨ys, e⟩ := hpre; rw [e]; simp
        have hsm : ∀ {w va vb}, Rd w eS va r → Rd w eS vb (T.getD xss.length []) → Pu Try.prog 11 #[va, vb] w (.bool true) := by
          intro w va vb ha hb
          have h := same05_spec ha hb
          have e : T.getD xss.length [] = r := by obtain ⟨ys, e⟩ := hpre; rw [e]; simp
          rwa [e, decide_eq_true rfl] at h
        clear h1 h2
        refine .inr ⟨b + 1, _, rfl, hS.obj (by repeat constructor), rfl, ?_⟩
        refine round_Y hA hB (rel_set1 hrel (by decide)) fun K0 hK0 => ?_
        (have fct := (And.intro @q5 (And.intro @q6 (And.intro @q8 @q11))); repeat' (first | ((with_reducible apply Y.a); exact rfl) | refine Y.reg fun K hK => ?_ | (with_reducible (refine hK _ _ ?_); clear hK K) | (with_reducible (refine hK _ ?_); clear hK K; intro wd hxd; have hS := Sep.xx hxd) | ((first | have hk := hK | have hk := hK2); clear hk; simp (disch := first | exact dis | fail) only [push_cast, ↓reduceIte, Nat.reduceAdd, Nat.reduceLeDiff, Nat.reduceEqDiff, Nat.reduceLT, Int.reduceToNat, fct]) | ((first | refine brO_n ?_ ?_ | refine brQ_n ?_ ?_) <;> intro hb hc <;> first | (with_reducible exact False.elim hc) | (exfalso; omega) | (simp only [hb]; clear hb)) | ((first | refine zalc ?_ | refine zbsl ?_ | ((with_reducible refine gBox ?_); refine zbox ?_)); intro gb wb hS) | ((with_reducible refine gSt ?_); refine zs2 ?_; intro wb hS) | (refine zcv ?_) | (refine Y.drt mixed fun K hK wd hxd => ?_; have hS := Sep.xx hxd) | with_reducible refine OT_leaf ?_ | (with_reducible refine OT_tail fun K2 hK2 => ?_) | (with_reducible (refine hK2 _ ?_); clear hK2 K2; intro wd hxd; have hS := Sep.xx hxd) | with_reducible refine OT_br fun K2 hK2 => ?_ | (refine hK2 _ _ ?_ ?_ <;> clear hK2 K2) | refine Y.drg mixed fun K hK => ?_ | (refine Y.cn ?_ ?_ <;> intro hc <;> first | (with_reducible exact False.elim hc) | (exfalso; omega) | skip))) <;> (try clear fct)
        have hS0 := hS.putO (.loop (recL .busy none fn tm [49].toArray asg bod b)) (by repeat constructor)
        refine hK0 _ _ ⟨w1.putObj (b + 1) (.loop (recL .busy none fn tm [49].toArray asg bod b)), run_beginRound (hS.obj (by repeat constructor)) rfl, ?_⟩
        generalize w1.putObj (b + 1) (.loop (recL .busy none fn tm [49].toArray asg bod b)) = w2 at hS0 ⊢
        clear hS hK0 K0
        have hS := hS0
        clear hS0
        have e1 : ((xss ++ [r]).length : Int) = xss.length + 1 := by simp
        rw [e1] at k
        by_cases hmx : (xss.length : Int) + 1 ≤ m
        · rw [decide_eq_true hmx] at k
          (have fct := (And.intro @q5 (And.intro @q6 (And.intro @q8 @q11))); repeat' (first | ((with_reducible apply Y.a); exact rfl) | refine Y.reg fun K hK => ?_ | (with_reducible (refine hK _ _ ?_); clear hK K) | (with_reducible (refine hK _ ?_); clear hK K; intro wd hxd; have hS := Sep.xx hxd) | ((first | have hk := hK | have hk := hK2); clear hk; simp (disch := first | exact dis | fail) only [push_cast, ↓reduceIte, Nat.reduceAdd, Nat.reduceLeDiff, Nat.reduceEqDiff, Nat.reduceLT, Int.reduceToNat, fct]) | ((first | refine brO_n ?_ ?_ | refine brQ_n ?_ ?_) <;> intro hb hc <;> first | (with_reducible exact False.elim hc) | (exfalso; omega) | (simp only [hb]; clear hb)) | ((first | refine zalc ?_ | refine zbsl ?_ | ((with_reducible refine gBox ?_); refine zbox ?_)); intro gb wb hS) | ((with_reducible refine gSt ?_); refine zs2 ?_; intro wb hS) | (refine zcv ?_) | ((with_reducible (show CallK _ 11 _ _ _ _ _)); refine zcp 11 (hsm (Sep.rd hS .h) (Sep.frzAt hS (by repeat constructor) hlt)) ?_; intro wb hS) | (refine Y.drt mixed fun K hK wd hxd => ?_; have hS := Sep.xx hxd) | with_reducible refine OT_leaf ?_ | (with_reducible refine OT_tail fun K2 hK2 => ?_) | (with_reducible (refine hK2 _ ?_); clear hK2 K2; intro wd hxd; have hS := Sep.xx hxd) | with_reducible refine OT_br fun K2 hK2 => ?_ | (refine hK2 _ _ ?_ ?_ <;> clear hK2 K2) | refine Y.drg mixed fun K hK => ?_ | (refine Y.cn ?_ ?_ <;> intro hc <;> first | (with_reducible exact False.elim hc) | (exfalso; omega) | skip))) <;> (try clear fct)
          have hS9 := (hS.putO (.loop (recL .ready none fn tm [49].toArray asg bod b)) (by repeat constructor)).drop .h
          have ho := hS.obj (g := b + 1) (o := .loop (recL .busy none fn tm [49].toArray asg bod b)) (by repeat constructor)
          exact Y.end ⟨_, _, run_endRound none ho, _, rfl, k _ _ ⟨.ready, none, fun _ => ⟨rfl, rfl⟩, fun h => absurd h (by omega), rfl⟩ (Sep.comm (B := M) (A := objC (b + 1) (.loop (recL .ready none fn tm [49].toArray asg bod b)) :: boxC gN 3 [I (xss.length + 1)] :: [boxC g3 23 [U d.dl, U d.q, I d.e], boxC g4 26 [I wideL.F, I wideL.N, I wideL.R, .bool wideL.U], boxC g5 9 [S s], boxC gT 27 [v], accC v 38 eV vs, frzC eS vs T, boxC gR 4 [.bool false], boxC gm 5 [U m], objC b (.deferred (some []))]) hS9)⟩
        · rw [decide_eq_false hmx] at k
          (have fct := (And.intro @q5 (And.intro @q6 (And.intro @q8 @q11))); repeat' (first | ((with_reducible apply Y.a); exact rfl) | refine Y.reg fun K hK => ?_ | (with_reducible (refine hK _ _ ?_); clear hK K) | (with_reducible (refine hK _ ?_); clear hK K; intro wd hxd; have hS := Sep.xx hxd) | ((first | have hk := hK | have hk := hK2); clear hk; simp (disch := first | exact dis | fail) only [push_cast, ↓reduceIte, Nat.reduceAdd, Nat.reduceLeDiff, Nat.reduceEqDiff, Nat.reduceLT, Int.reduceToNat, fct]) | ((first | refine brO_n ?_ ?_ | refine brQ_n ?_ ?_) <;> intro hb hc <;> first | (with_reducible exact False.elim hc) | (exfalso; omega) | (simp only [hb]; clear hb)) | ((first | refine zalc ?_ | refine zbsl ?_ | ((with_reducible refine gBox ?_); refine zbox ?_)); intro gb wb hS) | ((with_reducible refine gSt ?_); refine zs2 ?_; intro wb hS) | (refine zcv ?_) | ((with_reducible (show CallK _ 11 _ _ _ _ _)); refine zcp 11 (hsm (Sep.rd hS .h) (Sep.frzAt hS (by repeat constructor) hlt)) ?_; intro wb hS) | (refine Y.drt mixed fun K hK wd hxd => ?_; have hS := Sep.xx hxd) | with_reducible refine OT_leaf ?_ | (with_reducible refine OT_tail fun K2 hK2 => ?_) | (with_reducible (refine hK2 _ ?_); clear hK2 K2; intro wd hxd; have hS := Sep.xx hxd) | with_reducible refine OT_br fun K2 hK2 => ?_ | (refine hK2 _ _ ?_ ?_ <;> clear hK2 K2) | refine Y.drg mixed fun K hK => ?_ | (refine Y.cn ?_ ?_ <;> intro hc <;> first | (with_reducible exact False.elim hc) | (exfalso; omega) | skip))) <;> (try clear fct)
          have hS9 := (hS.putO (.loop (recL .done (some (.exit 0)) fn tm [49].toArray asg bod b)) (by repeat constructor)).drop .h
          have ho := hS.obj (g := b + 1) (o := .loop (recL .busy none fn tm [49].toArray asg bod b)) (by repeat constructor)
          exact Y.out ⟨_, _, run_endRound (some (.exit 0)) ho, _, rfl, k _ _ ⟨.done, some (.exit 0), fun h => absurd h hmx, fun _ => ⟨rfl, rfl⟩, rfl⟩ (Sep.comm (B := M) (A := objC (b + 1) (.loop (recL .done (some (.exit 0)) fn tm [49].toArray asg bod b)) :: boxC gN 3 [I (xss.length + 1)] :: [boxC g3 23 [U d.dl, U d.q, I d.e], boxC g4 26 [I wideL.F, I wideL.N, I wideL.R, .bool wideL.U], boxC g5 9 [S s], boxC gT 27 [v], accC v 38 eV vs, frzC eS vs T, boxC gR 4 [.bool false], boxC gm 5 [U m], objC b (.deferred (some []))]) hS9)⟩
      have hr := recs1_spec d wideL s (by rw [hR]; exact hT0) hT (by omega) (hS.sub (M := objC (b + 1) (.loop (recL .ready none fn tm [49].toArray asg bod b)) :: boxC gN 3 [I 0] :: [boxC g3 23 [U d.dl, U d.q, I d.e], boxC g4 26 [I wideL.F, I wideL.N, I wideL.R, .bool wideL.U], boxC g5 9 [S s], boxC gT 27 [v], accC v 38 eV vs, frzC eS vs T, boxC gR 4 [.bool false], boxC gm 5 [U m], objC b (.deferred (some []))]) (by repeat first | exact Sub.rfl' | exact Sub.nil0 | (refine Sub.c (by repeat constructor) ?_) | refine Sub.skip ?_)) ⟨.ready, none, fun _ => ⟨rfl, rfl⟩, fun h => absurd h (by simp; omega), rfl⟩ (hS.blk (g := g3) (by repeat constructor)) (hS.blk (g := g4) (by repeat constructor)) (hS.blk (g := g5) (by repeat constructor))
      refine hr.mono ?_
      clear hr hS
      rintro res w3 ⟨L', ⟨st, pe, h1, h2, rfl⟩, hS⟩
      have hN := goN_lim T [] hm.1
      generalize (goN (fun xss => decide ((xss.length : Int) ≤ m)) [] T).1.length = N at hN hS h1 h2
      have ho := hS.obj (g := b + 1) (o := .loop (recL st pe fn tm [49].toArray asg bod b)) (by repeat constructor)
      have hS0 := hS.putO (.loop (recL .exhausted pe fn tm [49].toArray asg bod b)) (by repeat constructor)
      have hsp : st ≠ .busy ∧ (pe = none ∨ pe = some (.exit 0)) := by
        rcases (by omega : (N : Int) ≤ m ∨ m < N) with hNm | hNm
        · obtain ⟨rfl, rfl⟩ := h1 hNm; exact ⟨by simp, .inl rfl⟩
        · obtain ⟨rfl, rfl⟩ := h2 hNm; exact ⟨by simp, .inr rfl⟩
      refine ⟨st, pe, hsp.1, ho, JumpY.either hsp.2 ?_⟩
      generalize w3.putObj _ _ = w4 at hS0 ⊢
      clear hS h1 h2 hT ho
      have hS := hS0
      clear hS0
      rw [List.length_nil] at hN
      (have fct := (And.intro @q5 (And.intro @q6 (And.intro @q8 @q11))); repeat' (first | ((with_reducible apply Y.a); exact rfl) | refine Y.reg fun K hK => ?_ | (with_reducible (refine hK _ _ ?_); clear hK K) | (with_reducible (refine hK _ ?_); clear hK K; intro wd hxd; have hS := Sep.xx hxd) | ((first | have hk := hK | have hk := hK2); clear hk; simp (disch := first | exact dis | fail) only [push_cast, ↓reduceIte, Nat.reduceAdd, Nat.reduceLeDiff, Nat.reduceEqDiff, Nat.reduceLT, Int.reduceToNat, fct]) | ((first | refine brO_n ?_ ?_ | refine brQ_n ?_ ?_) <;> intro hb hc <;> first | (with_reducible exact False.elim hc) | (exfalso; omega) | (simp only [hb]; clear hb)) | ((first | refine zalc ?_ | refine zbsl ?_ | ((with_reducible refine gBox ?_); refine zbox ?_)); intro gb wb hS) | ((with_reducible refine gSt ?_); refine zs2 ?_; intro wb hS) | (refine zcv ?_) | (refine zcp 6 (awake6_spec _) ?_; intro wb hS) | (refine Y.drt mixed fun K hK wd hxd => ?_; have hS := Sep.xx hxd) | with_reducible refine OT_leaf ?_ | (with_reducible refine OT_tail fun K2 hK2 => ?_) | (with_reducible (refine hK2 _ ?_); clear hK2 K2; intro wd hxd; have hS := Sep.xx hxd) | with_reducible refine OT_br fun K2 hK2 => ?_ | (refine hK2 _ _ ?_ ?_ <;> clear hK2 K2) | refine Y.drg mixed fun K hK => ?_ | (refine Y.cn ?_ ?_ <;> intro hc <;> first | (with_reducible exact False.elim hc) | (exfalso; omega) | skip))) <;> (try clear fct)
      all_goals
        have ho := hS.obj (g := b) (o := .deferred (some [])) (by repeat constructor)
        have hS9 := hS.putO (g := b) (o := .deferred (some [])) (.deferred none) (by repeat constructor)
        exact Y.ret (FinY.mark ⟨rfl, hS9.xt⟩ rfl ho rfl (RV.one (g := gR) (by simp only [push_cast, ↓reduceIte, Nat.reduceAdd, Nat.reduceLeDiff, Nat.reduceEqDiff, Nat.reduceLT, Int.reduceToNat, q6]) (hS9.blk (by repeat constructor)) (by kernel_rfl)))
  · repeat' (first | ((with_reducible apply Y.a); exact rfl) | refine Y.reg fun K hK => ?_ | (with_reducible (refine hK _ _ ?_); clear hK K) | (with_reducible (refine hK _ ?_); clear hK K; intro wd hxd; have hS := Sep.xx hxd) | ((first | have hk := hK | have hk := hK2); clear hk; simp (disch := first | exact dis | fail) only [push_cast, ↓reduceIte, Nat.reduceAdd, Nat.reduceLeDiff, Nat.reduceEqDiff, Nat.reduceLT, Int.reduceToNat, fct]) | ((first | refine brO_n ?_ ?_ | refine brQ_n ?_ ?_) <;> intro hb hc <;> first | (with_reducible exact False.elim hc) | (exfalso; omega) | (simp only [hb]; clear hb)) | ((first | refine zalc ?_ | refine zbsl ?_ | ((with_reducible refine gBox ?_); refine zbox ?_)); intro gb wb hS) | ((with_reducible refine gSt ?_); refine zs2 ?_; intro wb hS) | (refine zcv ?_) | (refine zcp 6 (awake6_spec _) ?_; intro wb hS) | (refine Y.drt mixed fun K hK wd hxd => ?_; have hS := Sep.xx hxd) | with_reducible refine OT_leaf ?_ | (with_reducible refine OT_tail fun K2 hK2 => ?_) | (with_reducible (refine hK2 _ ?_); clear hK2 K2; intro wd hxd; have hS := Sep.xx hxd) | with_reducible refine OT_br fun K2 hK2 => ?_ | (refine hK2 _ _ ?_ ?_ <;> clear hK2 K2) | refine Y.drg mixed fun K hK => ?_ | (refine Y.cn ?_ ?_ <;> intro hc <;> first | (with_reducible exact False.elim hc) | (exfalso; omega) | skip))
    exact Y.ret (FinY.one ⟨rfl, hS.xt⟩ rfl (RV.one (by simp only [push_cast, ↓reduceIte, Nat.reduceAdd, Nat.reduceLeDiff, Nat.reduceEqDiff, Nat.reduceLT, Int.reduceToNat]; rfl) (hS.blk (by repeat constructor)) (by kernel_rfl)))
end Go.Proofs.Ytdikpaochhacmaa
