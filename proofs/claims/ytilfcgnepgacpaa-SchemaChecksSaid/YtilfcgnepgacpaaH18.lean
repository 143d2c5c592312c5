/- Chapter 18: the laws. -/
import Derived.Test.YtilfcgnepgacpaaF18
namespace Go.Proofs.Ytilfcgnepgacpaa
set_option linter.unusedSimpArgs false
set_option linter.unusedVariables false
attribute [local irreducible] SemK UnitK StK AlcK BslK CallK Instr.box Builtin.append_ Instr.makeSlice Instr.makeMap Instr.lookup Instr.mapUpdate Instr.sliceAt convert
open Go.RowKit
theorem lines_len (s : Str) : ∀ cur : Str, (linesF cur s).length ≤ s.length + 1 := by
  induction s with
  | nil => intro cur; rw [linesF]; split <;> simp
  | cons b r ih =>
    intro cur
    rw [linesF]
    split
    · have := ih []; simp only [List.length_cons]; omega
    · have := ih (cur ++ [b]); simp only [List.length_cons]; omega
theorem prsF_len (l : List Str) : ∀ acc : List Col, (prsF acc l).1.length ≤ acc.length + l.length := by
  induction l with
  | nil => intro acc; simp [prsF]
  | cons s r ih =>
    intro acc
    rw [prs_line]
    cases lcM s with
    | none => simp
    | some c =>
      simp only
      split
      · simp
      · have := ih (acc ++ [c]); simp only [List.length_append, List.length_cons, List.length_nil] at this ⊢; omega
theorem prsM_len (s : Str) : (prsM s).1.length ≤ s.length + 1 := by
  unfold prsM
  split
  · simp
  · have h1 := prsF_len (linesF [] s) []
    have h2 := lines_len s []
    simp only [List.length_nil] at h1; omega
theorem textM_len (l : List Col) : (textM l).length ≤ 7 * l.length + 2 * totL (namesC l) := by
  induction l with
  | nil => simp [textM]
  | cons c r ih =>
    have hw : (wordM c.kind).length ≤ 4 := by unfold wordM; split <;> (try split) <;> (try split) <;> simp
    have hq : (quM c.null).length ≤ 1 := by unfold quM; split <;> simp
    have hs := spM_len c.name
    have hl := line_len c
    have e : textM (c :: r) = lineC c ++ textM r := by simp [textM]
    have e2 : totL (namesC (c :: r)) = c.name.length + totL (namesC r) := rfl
    rw [e, e2, List.length_append, List.length_cons]
    have hsl : c.name.length = List.length c.name := rfl
    omega
theorem few3_text {l : List Col} (h : few3M l = true) : (textM l).length ≤ 1000 := by
  have := textM_len l
  have := few3_len h
  omega
def c3 : MC := (.seq (.reg [qq 2 (.mv (kb false))]) (.seq (.seq (.reg [qm 9 0, qq 10 (.lenS (.tmp 9)), qq 11 (.bin .gtr (.tmp 10) (ki 400))]) (.cond (.tmp 11) (.seq (.reg [qq 12 (.call 12 []), qm 2 12]) .ret) .skip)) (.seq (.reg [qm 14 0, qq 15 (.call 13 [(.tmp 14)]), qm 13 15, qq 16 (.ext 0 (.tmp 13)), qq 17 (.ext 1 (.tmp 13)), qq 18 (.ext 2 (.tmp 13)), qm 3 16, qm 4 17, qm 5 18]) (.seq (.reg [qm 20 0, qq 21 (.call 14 [(.tmp 20)]), qm 19 21, qq 22 (.ext 0 (.tmp 19)), qq 23 (.ext 1 (.tmp 19)), qq 24 (.ext 2 (.tmp 19)), qm 6 22, qm 7 23, qm 8 24]) (.seq (.reg [qm 25 3, qq 26 (.call 16 [(.tmp 25)]), qm 27 6, qq 28 (.call 15 [(.tmp 26), (.tmp 27)]), qm 29 28, qmt 29 30 4, qmt 29 31 7, qt 29 32 (.bin .eql (.tmp 30) (.tmp 31)), qq 33 (.pick (.tmp 29) (.tmp 32) (kb false)), qm 34 33, qmt 34 35 5, qmt 34 36 8, qt 34 37 (.bin .eql (.tmp 35) (.tmp 36)), qq 38 (.pick (.tmp 34) (.tmp 37) (kb false)), qm 39 38, qt 39 40 (.call 12 []), qq 41 (.pick (.tmp 39) (.tmp 40) (kb false)), qm 2 41]) .ret)))))
theorem k3 : conv Try.prog 42 (Try.f3.body.getD .skip) = c3 := by kernel_rfl
theorem in3 {a0 : Value} {w : World} {R : Value → World → Prop} (h : G Try.prog Try.f3 42 [.c c3] R (frL 0 [a0]) w) : Ret Try.prog 3 #[a0] w R := G.enter (args := [a0]) Try.func3 (c := Try.f3.body.getD .skip) (by kernel_rfl) (by kernel_rfl) (by simp) k3 h
theorem law_parses (s : Str) (w : World) : Pu Try.prog 3 #[S s] w (.bool true) := by
  refine in3 ?_
  have hS := Sep.start w
  have heq : eqD ((prsM s).1.map toR) ((prsM s).1.map toR) = true := eqD_t rfl
  have hpl := prsM_len s
  by_cases hl : s.length ≤ 400
  · repeat' (first | refine G.seq ?_ | refine G.blk ?_ | refine G.endb ?_ | refine G.skip ?_ | refine G.exit rfl ?_ | refine G.reg fun K hK => ?_ | (with_reducible (refine hK _ _ ?_); clear hK K) | (with_reducible (refine hK _ ?_); clear hK K; intro wd hxd; have hS := Sep.ext (by assumption) hxd) | (have hk := hK; clear hk; simp (disch := (first | exact dis | fail)) only [push_cast, ↓reduceIte, Nat.reduceAdd, Nat.reduceLeDiff, Nat.reduceEqDiff, Nat.reduceLT, Int.reduceToNat, heq]) | ((first | refine brO_mk ?_ ?_ | refine brQ_mk ?_ ?_) <;> intro hb <;> (try simp only [Bool.not_eq_true', Bool.not_eq_false'] at hb) <;> have hc := hb <;> (try simp only [hcs, reduceCtorEq] at hc) <;> (try (exfalso; omega)) <;> simp only [hb] <;> clear hb) | (refine zalc ?_; intro gb wb hS) | (refine zbsl ?_; intro gb wb hS) | ((with_reducible (show SemK _ (Instr.box _ _) _ _ _ _)); refine zbox ?_; intro gb wb hS) | ((with_reducible (show StK _ _ (Value.pointer _) _ _ _ _ _)); refine zst ?_; intro wb hS; (try simp only [sets] at hS)) | (refine zcp 12 (awake3_spec _) ?_; intro wb hS) | (refine zco 13 (parse_spec s _ (by omega)) ?_; rintro vb wb ⟨lv, rfl, hS2⟩; have hS := hS2.ap; simp only [apps] at hS) | (refine zco 14 (rparse_spec s _ (by omega)) ?_; rintro vb wb ⟨lv2, rfl, hS2⟩; have hS := hS2.ap; simp only [apps] at hS) | (refine zco 16 (ref_spec (l := (prsM s).1) (Sep.rd hS (by repeat constructor)) (by omega)) ?_; rintro vb wb hS2; have hS := hS2.ap; simp only [apps] at hS) | (refine zcp 15 (rsame_spec (Sep.rd hS (by repeat constructor)) (Sep.rd hS (by repeat constructor))) ?_; intro wb hS) | (refine G.drt mixed fun K hK wd hxd => ?_; have hS := Sep.ext (by assumption) hxd) | with_reducible refine OT_leaf ?_ | with_reducible refine OT_br fun K2 hK2 => ?_ | (refine hK2 _ _ ?_ ?_ <;> clear hK2 K2) | refine G.drg mixed fun K hK => ?_ | (refine G.cond (by simp only [push_cast, ↓reduceIte, Nat.reduceAdd, Nat.reduceLeDiff, Nat.reduceEqDiff, Nat.reduceLT, Int.reduceToNat, heq]; rfl) ?_ ?_ <;> intro hc <;> (try simp only [hcs, reduceCtorEq] at hc) <;> (try (exfalso; omega))))
    all_goals
      ((first | apply G.rv1 rfl | apply G.rv2 rfl | apply G.rv3 rfl | apply G.ret0 rfl) <;> (first | exact RV.tmp | exact zag (by simp only [push_cast, ↓reduceIte, Nat.reduceAdd, Nat.reduceLeDiff, Nat.reduceEqDiff, Nat.reduceLT, Int.reduceToNat]; rfl) | skip)); (try simp (disch := (first | exact dis | fail)) only [push_cast, ↓reduceIte, Nat.reduceAdd, Nat.reduceLeDiff, Nat.reduceEqDiff, Nat.reduceLT, Int.reduceToNat])
      exact Sep.xt (by assumption)
  · repeat' (first | refine G.seq ?_ | refine G.blk ?_ | refine G.endb ?_ | refine G.skip ?_ | refine G.exit rfl ?_ | refine G.reg fun K hK => ?_ | (with_reducible (refine hK _ _ ?_); clear hK K) | (with_reducible (refine hK _ ?_); clear hK K; intro wd hxd; have hS := Sep.ext (by assumption) hxd) | (have hk := hK; clear hk; simp (disch := (first | exact dis | fail)) only [push_cast, ↓reduceIte, Nat.reduceAdd, Nat.reduceLeDiff, Nat.reduceEqDiff, Nat.reduceLT, Int.reduceToNat]) | ((first | refine brO_mk ?_ ?_ | refine brQ_mk ?_ ?_) <;> intro hb <;> (try simp only [Bool.not_eq_true', Bool.not_eq_false'] at hb) <;> have hc := hb <;> (try simp only [hcs, reduceCtorEq] at hc) <;> (try (exfalso; omega)) <;> simp only [hb] <;> clear hb) | (refine zalc ?_; intro gb wb hS) | (refine zbsl ?_; intro gb wb hS) | ((with_reducible (show SemK _ (Instr.box _ _) _ _ _ _)); refine zbox ?_; intro gb wb hS) | ((with_reducible (show StK _ _ (Value.pointer _) _ _ _ _ _)); refine zst ?_; intro wb hS; (try simp only [sets] at hS)) | (refine zcp 12 (awake3_spec _) ?_; intro wb hS) | (refine G.drt mixed fun K hK wd hxd => ?_; have hS := Sep.ext (by assumption) hxd) | with_reducible refine OT_leaf ?_ | with_reducible refine OT_br fun K2 hK2 => ?_ | (refine hK2 _ _ ?_ ?_ <;> clear hK2 K2) | refine G.drg mixed fun K hK => ?_ | (refine G.cond (by simp only [push_cast, ↓reduceIte, Nat.reduceAdd, Nat.reduceLeDiff, Nat.reduceEqDiff, Nat.reduceLT, Int.reduceToNat]; rfl) ?_ ?_ <;> intro hc <;> (try simp only [hcs, reduceCtorEq] at hc) <;> (try (exfalso; omega))))
    all_goals
      ((first | apply G.rv1 rfl | apply G.rv2 rfl | apply G.rv3 rfl | apply G.ret0 rfl) <;> (first | exact RV.tmp | exact zag (by simp only [push_cast, ↓reduceIte, Nat.reduceAdd, Nat.reduceLeDiff, Nat.reduceEqDiff, Nat.reduceLT, Int.reduceToNat]; rfl) | skip)); (try simp (disch := (first | exact dis | fail)) only [push_cast, ↓reduceIte, Nat.reduceAdd, Nat.reduceLeDiff, Nat.reduceEqDiff, Nat.reduceLT, Int.reduceToNat])
      exact Sep.xt (by assumption)
def goodC (l : List Col) : Bool := few3M l && decide ((checkM (l.map nkC)).2 = 0)
theorem good_r {l : List Col} (h : goodC l = true) : few3M l = true ∧ RightC l := by
  simp only [goodC, Bool.and_eq_true, decide_eq_true_eq] at h
  exact ⟨h.1, check_right l h.2⟩
def c10 : MC := (.seq (.reg [qq 2 (.mv (kb false))]) (.seq (.seq (.reg [qm 10 0, qq 11 (.call 26 [(.tmp 10)]), qq 12 (.un .not (.tmp 11))]) (.cond (.tmp 12) (.seq (.reg [qq 13 (.call 12 []), qm 2 13]) .ret) .skip)) (.seq (.reg [qm 15 0, qq 16 (.call 38 [(.tmp 15)]), qm 14 16, qq 17 (.ext 0 (.tmp 14)), qq 18 (.ext 1 (.tmp 14)), qm 3 17, qm 4 18]) (.seq (.reg [qm 20 0, qq 21 (.call 16 [(.tmp 20)]), qq 22 (.call 27 [(.tmp 21)]), qm 19 22, qq 23 (.ext 0 (.tmp 19)), qq 24 (.ext 1 (.tmp 19)), qm 5 23, qm 6 24]) (.seq (.seq (.reg [qm 25 6, qq 26 (.bin .neq (.tmp 25) (ki 0))]) (.cond (.tmp 26) (.seq (.reg [qm 27 3, qq 28 (.bin .eql (.tmp 27) (.const (S []))), qm 29 28, qmt 29 30 4, qmt 29 31 6, qt 29 32 (.bin .eql (.tmp 30) (.tmp 31)), qq 33 (.pick (.tmp 29) (.tmp 32) (kb false)), qm 34 33, qt 34 35 (.call 12 []), qq 36 (.pick (.tmp 34) (.tmp 35) (kb false)), qm 2 36]) .ret) .skip)) (.seq (.seq (.reg [qm 37 3, qm 38 0, qq 39 (.call 16 [(.tmp 38)]), qq 40 (.call 39 [(.tmp 39)]), qq 41 (.bin .neq (.tmp 37) (.tmp 40)), qm 42 41, qmf 42 43 4, qf 42 44 (.bin .neq (.tmp 43) (ki 0)), qq 45 (.pick (.tmp 42) (kb true) (.tmp 44))]) (.cond (.tmp 45) (.seq (.reg [qq 2 (.mv (kb false))]) .ret) .skip)) (.seq (.reg [qm 47 3, qq 48 (.call 13 [(.tmp 47)]), qm 46 48, qq 49 (.ext 0 (.tmp 46)), qq 50 (.ext 1 (.tmp 46)), qq 51 (.ext 2 (.tmp 46)), qm 7 49, qm 8 50, qm 9 51]) (.seq (.reg [qm 52 9, qq 53 (.bin .eql (.tmp 52) (ki 0)), qm 54 53, qmt 54 55 8, qmt 54 56 0, qt 54 57 (.len (.tmp 56)), qt 54 58 (.bin .eql (.tmp 55) (.tmp 57)), qq 59 (.pick (.tmp 54) (.tmp 58) (kb false)), qm 60 59, qmt 60 61 7, qt 60 62 (.call 16 [(.tmp 61)]), qmt 60 63 0, qt 60 64 (.call 16 [(.tmp 63)]), qt 60 65 (.call 15 [(.tmp 62), (.tmp 64)]), qq 66 (.pick (.tmp 60) (.tmp 65) (kb false)), qm 67 66, qt 67 68 (.call 12 []), qq 69 (.pick (.tmp 67) (.tmp 68) (kb false)), qm 2 69]) .ret))))))))
theorem k10 : conv Try.prog 70 (Try.f10.body.getD .skip) = c10 := by kernel_rfl
theorem in10 {a0 : Value} {w : World} {R : Value → World → Prop} (h : G Try.prog Try.f10 70 [.c c10] R (frL 0 [a0]) w) : Ret Try.prog 10 #[a0] w R := G.enter (args := [a0]) Try.func10 (c := Try.f10.body.getD .skip) (by kernel_rfl) (by kernel_rfl) (by simp) k10 h
theorem law_texts {v : Value} {l : List Col} {w : World} (h0 : Rd w eC v l) : Pu Try.prog 10 #[v] w (.bool true) := by
  refine in10 ?_
  have hS := Sep.start w
  by_cases hf : few3M l = true
  · have hl0 := few3_len hf
    have hmm := few3_mem hf
    have htl := few3_text hf
    have hnk := nk_toR l
    have hmr : ∀ c ∈ l.map toR, c.name.length ≤ 100000000000 := fun c hc => by
      obtain ⟨c', hc', rfl⟩ := List.mem_map.1 hc
      have := hmm c' hc'; simp only [toR]; omega
    by_cases hc0 : (checkM (l.map nkC)).2 = 0
    · have hr := check_right l hc0
      have hp := prs_text l hr
      have heq : eqD (l.map toR) (l.map toR) = true := eqD_t rfl
      have htr := textR_toR l
      have hif : (if (checkM (l.map nkC)).2 = 0 then textM l else []) = textM l := if_pos hc0
      have hse : (textM l == textM l) = true := by simp
      have hkr : ∀ c ∈ l.map toR, (0 ≤ c.kind ∧ c.kind ≤ 3) ∧ c.name.length ≤ 1000000000 := fun c hc => by
        obtain ⟨c', hc', rfl⟩ := List.mem_map.1 hc
        have := hmm c' hc'
        have h2 := hr.ok c' hc'
        simp only [toR]; omega
      repeat' (first | refine G.seq ?_ | refine G.blk ?_ | refine G.endb ?_ | refine G.skip ?_ | refine G.exit rfl ?_ | refine G.reg fun K hK => ?_ | (with_reducible (refine hK _ _ ?_); clear hK K) | (with_reducible (refine hK _ ?_); clear hK K; intro wd hxd; have hS := Sep.ext (by assumption) hxd) | (have hk := hK; clear hk; simp (disch := (first | exact dis | fail)) only [push_cast, ↓reduceIte, Nat.reduceAdd, Nat.reduceLeDiff, Nat.reduceEqDiff, Nat.reduceLT, Int.reduceToNat, hf, hnk, hc0, hif, htr, hp, heq, hse]) | ((first | refine brO_mk ?_ ?_ | refine brQ_mk ?_ ?_) <;> intro hb <;> (try simp only [Bool.not_eq_true', Bool.not_eq_false'] at hb) <;> have hc := hb <;> (try simp only [hcs, reduceCtorEq] at hc) <;> (try (exfalso; omega)) <;> simp only [hb] <;> clear hb) | (refine zalc ?_; intro gb wb hS) | (refine zbsl ?_; intro gb wb hS) | ((with_reducible (show SemK _ (Instr.box _ _) _ _ _ _)); refine zbox ?_; intro gb wb hS) | ((with_reducible (show StK _ _ (Value.pointer _) _ _ _ _ _)); refine zst ?_; intro wb hS; (try simp only [sets] at hS)) | (refine zcp 26 (few3_spec (h0.ext hS.x)) ?_; intro wb hS) | (refine zcp 12 (awake3_spec _) ?_; intro wb hS) | (refine zcp 38 (text_spec (h0.ext hS.x) (fun c hc => by have := hmm c hc; omega) (by omega)) ?_; intro wb hS) | (refine zco 16 (ref_spec (l := l) (h0.ext hS.x) (by omega)) ?_; rintro vb wb hS2; have hS := hS2.ap; simp only [apps] at hS) | (refine zcp 27 (rcheck_spec (l := l.map toR) (Sep.rd hS (by repeat constructor)) hmr (by simp; omega)) ?_; intro wb hS) | (refine zcp 39 (rtext_spec (l := l.map toR) (Sep.rd hS (by repeat constructor)) hkr (by rw [htr]; omega)) ?_; intro wb hS) | (refine zco 13 (parse_spec (textM l) _ (by omega)) ?_; rintro vb wb ⟨lv, rfl, hS2⟩; have hS := hS2.ap; simp only [apps] at hS) | (refine zco 16 (ref_spec (l := (prsM (textM l)).1) (Sep.rd hS (by repeat constructor)) (by rw [hp]; simp only []; omega)) ?_; rintro vb wb hS2; have hS := hS2.ap; simp only [apps] at hS) | (refine zcp 15 (rsame_spec (Sep.rd hS (by repeat constructor)) (Sep.rd hS (by repeat constructor))) ?_; intro wb hS) | (refine G.drt mixed fun K hK wd hxd => ?_; have hS := Sep.ext (by assumption) hxd) | with_reducible refine OT_leaf ?_ | with_reducible refine OT_br fun K2 hK2 => ?_ | (refine hK2 _ _ ?_ ?_ <;> clear hK2 K2) | refine G.drg mixed fun K hK => ?_ | (refine G.cond (by simp only [push_cast, ↓reduceIte, Nat.reduceAdd, Nat.reduceLeDiff, Nat.reduceEqDiff, Nat.reduceLT, Int.reduceToNat, hf, hnk, hc0, hif, htr, hp, heq, hse]; rfl) ?_ ?_ <;> intro hc <;> (try simp only [hcs, reduceCtorEq] at hc) <;> (try (exfalso; omega))))
      all_goals
        ((first | apply G.rv1 rfl | apply G.rv2 rfl | apply G.rv3 rfl | apply G.ret0 rfl) <;> (first | exact RV.tmp | exact zag (by simp only [push_cast, ↓reduceIte, Nat.reduceAdd, Nat.reduceLeDiff, Nat.reduceEqDiff, Nat.reduceLT, Int.reduceToNat]; rfl) | skip)); (try simp (disch := (first | exact dis | fail)) only [push_cast, ↓reduceIte, Nat.reduceAdd, Nat.reduceLeDiff, Nat.reduceEqDiff, Nat.reduceLT, Int.reduceToNat])
        exact Sep.xt (by assumption)
    · have hif : (if (checkM (l.map nkC)).2 = 0 then textM l else []) = [] := if_neg hc0
      repeat' (first | refine G.seq ?_ | refine G.blk ?_ | refine G.endb ?_ | refine G.skip ?_ | refine G.exit rfl ?_ | refine G.reg fun K hK => ?_ | (with_reducible (refine hK _ _ ?_); clear hK K) | (with_reducible (refine hK _ ?_); clear hK K; intro wd hxd; have hS := Sep.ext (by assumption) hxd) | (have hk := hK; clear hk; simp (disch := (first | exact dis | fail)) only [push_cast, ↓reduceIte, Nat.reduceAdd, Nat.reduceLeDiff, Nat.reduceEqDiff, Nat.reduceLT, Int.reduceToNat, hf, hnk, hif]) | ((first | refine brO_mk ?_ ?_ | refine brQ_mk ?_ ?_) <;> intro hb <;> (try simp only [Bool.not_eq_true', Bool.not_eq_false'] at hb) <;> have hc := hb <;> (try simp only [hcs, reduceCtorEq] at hc) <;> (try (exfalso; omega)) <;> simp only [hb] <;> clear hb) | (refine zalc ?_; intro gb wb hS) | (refine zbsl ?_; intro gb wb hS) | ((with_reducible (show SemK _ (Instr.box _ _) _ _ _ _)); refine zbox ?_; intro gb wb hS) | ((with_reducible (show StK _ _ (Value.pointer _) _ _ _ _ _)); refine zst ?_; intro wb hS; (try simp only [sets] at hS)) | (refine zcp 26 (few3_spec (h0.ext hS.x)) ?_; intro wb hS) | (refine zcp 12 (awake3_spec _) ?_; intro wb hS) | (refine zcp 38 (text_spec (h0.ext hS.x) (fun c hc => by have := hmm c hc; omega) (by omega)) ?_; intro wb hS) | (refine zco 16 (ref_spec (l := l) (h0.ext hS.x) (by omega)) ?_; rintro vb wb hS2; have hS := hS2.ap; simp only [apps] at hS) | (refine zcp 27 (rcheck_spec (l := l.map toR) (Sep.rd hS (by repeat constructor)) hmr (by simp; omega)) ?_; intro wb hS) | (refine G.drt mixed fun K hK wd hxd => ?_; have hS := Sep.ext (by assumption) hxd) | with_reducible refine OT_leaf ?_ | with_reducible refine OT_br fun K2 hK2 => ?_ | (refine hK2 _ _ ?_ ?_ <;> clear hK2 K2) | refine G.drg mixed fun K hK => ?_ | (refine G.cond (by simp only [push_cast, ↓reduceIte, Nat.reduceAdd, Nat.reduceLeDiff, Nat.reduceEqDiff, Nat.reduceLT, Int.reduceToNat, hf, hnk, hif]; rfl) ?_ ?_ <;> intro hc <;> (try simp only [hcs, reduceCtorEq] at hc) <;> (try (exfalso; omega))))
      all_goals
        ((first | apply G.rv1 rfl | apply G.rv2 rfl | apply G.rv3 rfl | apply G.ret0 rfl) <;> (first | exact RV.tmp | exact zag (by simp only [push_cast, ↓reduceIte, Nat.reduceAdd, Nat.reduceLeDiff, Nat.reduceEqDiff, Nat.reduceLT, Int.reduceToNat]; rfl) | skip)); (try simp (disch := (first | exact dis | fail)) only [push_cast, ↓reduceIte, Nat.reduceAdd, Nat.reduceLeDiff, Nat.reduceEqDiff, Nat.reduceLT, Int.reduceToNat])
        exact Sep.xt (by assumption)
  · repeat' (first | refine G.seq ?_ | refine G.blk ?_ | refine G.endb ?_ | refine G.skip ?_ | refine G.exit rfl ?_ | refine G.reg fun K hK => ?_ | (with_reducible (refine hK _ _ ?_); clear hK K) | (with_reducible (refine hK _ ?_); clear hK K; intro wd hxd; have hS := Sep.ext (by assumption) hxd) | (have hk := hK; clear hk; simp (disch := (first | exact dis | fail)) only [push_cast, ↓reduceIte, Nat.reduceAdd, Nat.reduceLeDiff, Nat.reduceEqDiff, Nat.reduceLT, Int.reduceToNat, hf]) | ((first | refine brO_mk ?_ ?_ | refine brQ_mk ?_ ?_) <;> intro hb <;> (try simp only [Bool.not_eq_true', Bool.not_eq_false'] at hb) <;> have hc := hb <;> (try simp only [hcs, reduceCtorEq] at hc) <;> (try (exfalso; omega)) <;> simp only [hb] <;> clear hb) | (refine zalc ?_; intro gb wb hS) | (refine zbsl ?_; intro gb wb hS) | ((with_reducible (show SemK _ (Instr.box _ _) _ _ _ _)); refine zbox ?_; intro gb wb hS) | ((with_reducible (show StK _ _ (Value.pointer _) _ _ _ _ _)); refine zst ?_; intro wb hS; (try simp only [sets] at hS)) | (refine zcp 26 (few3_spec (h0.ext hS.x)) ?_; intro wb hS) | (refine zcp 12 (awake3_spec _) ?_; intro wb hS) | (refine G.drt mixed fun K hK wd hxd => ?_; have hS := Sep.ext (by assumption) hxd) | with_reducible refine OT_leaf ?_ | with_reducible refine OT_br fun K2 hK2 => ?_ | (refine hK2 _ _ ?_ ?_ <;> clear hK2 K2) | refine G.drg mixed fun K hK => ?_ | (refine G.cond (by simp only [push_cast, ↓reduceIte, Nat.reduceAdd, Nat.reduceLeDiff, Nat.reduceEqDiff, Nat.reduceLT, Int.reduceToNat, hf]; rfl) ?_ ?_ <;> intro hc <;> (try simp only [hcs, reduceCtorEq] at hc) <;> (try (exfalso; omega))))
    all_goals
      ((first | apply G.rv1 rfl | apply G.rv2 rfl | apply G.rv3 rfl | apply G.ret0 rfl) <;> (first | exact RV.tmp | exact zag (by simp only [push_cast, ↓reduceIte, Nat.reduceAdd, Nat.reduceLeDiff, Nat.reduceEqDiff, Nat.reduceLT, Int.reduceToNat]; rfl) | skip)); (try simp (disch := (first | exact dis | fail)) only [push_cast, ↓reduceIte, Nat.reduceAdd, Nat.reduceLeDiff, Nat.reduceEqDiff, Nat.reduceLT, Int.reduceToNat])
      exact Sep.xt (by assumption)
end Go.Proofs.Ytilfcgnepgacpaa
