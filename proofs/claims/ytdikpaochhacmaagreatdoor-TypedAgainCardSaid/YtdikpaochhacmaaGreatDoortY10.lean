/- Texts of the proof, joined. -/
import Derived.Test.YtdikpaochhacmaaGreatDoortW10
namespace Go.Proofs.YtdikpaochhacmaaGreatDoor
set_option linter.unusedSimpArgs false
set_option linter.unusedVariables false
attribute [local irreducible] SemK UnitK StK AlcK BslK CallK CallV Instr.box Builtin.append_ Instr.makeSlice Instr.makeMap Instr.lookup Instr.mapUpdate Instr.sliceAt convert
open Go.RowKit
def lineV (d : Dl) (r : List Str) (first : Bool) : Value := if rightD d = false then .tuple #[S [], I 1] else if mayR r = 0 then .tuple #[S (lineM d r first), I 0] else .tuple #[S [], I (mayR r)]
section
variable {w : World} {v : Value} {r : List Str}
def c77l1 : MC := (.seq (.reg [qq 25 (.bin .lss (.tmp 24) (.tmp 23))]) (.seq (.cond (.tmp 25) .skip (.exit 0)) (.seq (.blk 1 (.seq (.reg [qq 26 (.adr 1 (.tmp 22) (.tmp 24)), qq 27 (.ld none (.tmp 26)), qm 10 27]) (.seq (.reg [qm 28 10, qq 29 (.call 52 [(.tmp 28)]), qq 30 (.un .not (.tmp 29))]) (.cond (.tmp 30) (.seq (.reg [qq 6 (.mv (.const (S []))), qq 7 (.mv (ki 14))]) .ret) .skip)))) (.reg [qq 31 (.bin .add (.tmp 24) (ki 1)), qm 24 31]))))
def c77l2 : MC := (.seq (.reg [qq 35 (.bin .lss (.tmp 34) (.tmp 33))]) (.seq (.cond (.tmp 35) .skip (.exit 2)) (.seq (.blk 3 (.seq (.reg [qm 36 34, qq 37 (.adr 1 (.tmp 32) (.tmp 34)), qq 38 (.ld none (.tmp 37)), qm 12 36, qm 13 38]) (.seq (.seq (.reg [qm 39 12, qq 40 (.bin .gtr (.tmp 39) (ki 0))]) (.cond (.tmp 40) (.reg [qq 41 (.fad 0 (.tmp 3)), qq 42 (.ld none (.tmp 41)), qq 43 (.call 105 [(.tmp 11), (.tmp 42)])]) .skip)) (.reg [qq 44 (.ld (.some 3) (.tmp 3)), qm 45 13, qm 46 1, qq 47 (.len (.tmp 46)), qq 48 (.bin .eql (.tmp 47) (ki 1)), qm 49 2, qm 50 49, qmt 50 51 12, qt 50 52 (.bin .eql (.tmp 51) (ki 0)), qq 53 (.pick (.tmp 50) (.tmp 52) (kb false)), qq 54 (.call 106 [(.tmp 44), (.tmp 45), (.tmp 48), (.tmp 53)]), qq 55 (.call 78 [(.tmp 11), (.tmp 54)])])))) (.reg [qq 56 (.bin .add (.tmp 34) (ki 1)), qm 34 56]))))
def c77 : MC := (.seq (.reg [qq 3 (.raw (.box 23 (.tmp 0)) 0), qq 6 (.mv (.const (S []))), qq 7 (.mv (ki 0))]) (.seq (.seq (.reg [qq 14 (.ld (.some 3) (.tmp 3)), qq 15 (.call 29 [(.tmp 14)]), qm 8 15]) (.seq (.reg [qm 16 8, qq 17 (.bin .neq (.tmp 16) (ki 0))]) (.cond (.tmp 17) (.seq (.reg [qm 18 8, qq 6 (.mv (.const (S []))), qm 7 18]) .ret) .skip))) (.seq (.seq (.reg [qm 19 1, qq 20 (.len (.tmp 19)), qq 21 (.bin .eql (.tmp 20) (ki 0))]) (.cond (.tmp 21) (.seq (.reg [qq 6 (.mv (.const (S []))), qq 7 (.mv (ki 13))]) .ret) .skip)) (.seq (.seq (.reg [qm 22 1, qq 23 (.len (.tmp 22)), qq 24 (.mv (ki 0))]) (.blk 0 (.loop c77l1))) (.seq (.reg [qq 11 (.alc 165 [(.pointer none), (.slice none 0 0)])]) (.seq (.seq (.reg [qm 32 1, qq 33 (.len (.tmp 32)), qq 34 (.mv (ki 0))]) (.blk 2 (.loop c77l2))) (.seq (.reg [qq 57 (.ld (.some 3) (.tmp 3)), qq 58 (.call 107 [(.tmp 57)]), qq 59 (.call 78 [(.tmp 11), (.tmp 58)])]) (.seq (.reg [qq 60 (.call 79 [(.tmp 11)]), qm 6 60, qq 7 (.mv (ki 0))]) .ret))))))))
theorem k77 : conv Tryz.prog 61 (Tryz.f77.body.getD .skip) = c77 := by kernel_rfl
theorem in77 {a0 a1 a2 : Value} {w : World} {R : Value → World → Prop} (h : G Tryz.prog Tryz.f77 61 [.c c77] R (frL 0 [a0, a1, a2]) w) : Ret Tryz.prog 77 #[a0, a1, a2] w R := G.enter (args := [a0, a1, a2]) Tryz.func77 (c := Tryz.f77.body.getD .skip) (by kernel_rfl) (by kernel_rfl) (by simp) k77 h
def wlineV (T : MC) : MC := match c77 with
  | .seq a (.seq b (.seq c (.seq d _))) => .seq a (.seq b (.seq c (.seq d T)))
  | _ => .skip
def wlineT : MC := match c77 with
  | .seq _ (.seq _ (.seq _ (.seq _ T))) => T
  | _ => .skip
set_option maxHeartbeats 1000000 in
theorem wline_tail {n : Nat} {ρ : Fr} {w' : World} {g3 : Nat} (d : Dl) (hd : byD d) (hrt : rightD d = true) (first : Bool) (hr : Rd w eS v r) (hN : ∀ f ∈ r, f.length ≤ 1000000) (hl : r.length ≤ 10000) (q1 : ρ 1 = v) (q2 : ρ 2 = .bool first) (q3 : ρ 3 = .pointer (some ⟨g3, 0, none⟩)) (hS : Sep w w' [boxC g3 23 [U d.dl, U d.q, I d.e]]) :
    G Tryz.prog Tryz.f77 n [.c wlineT] (fun res w' => res = .tuple #[S (lineM d r first), I 0] ∧ Ext w w') ρ w' := by
  unfold wlineT c77
  dsimp only
  have hb0 : ((bD d).toNat : Int) = d.dl := byte_of ⟨hd.1, hd.2.1⟩
  (have fct := (And.intro @q1 (And.intro @q2 @q3)); repeat' (first | ((with_reducible apply G.a); exact rfl) | refine G.reg fun K hK => ?_ | (with_reducible (refine hK _ _ ?_); clear hK K) | (have hk := hK; clear hk; simp (disch := first | exact dis | fail) only [push_cast, ↓reduceIte, Nat.reduceAdd, Nat.reduceLeDiff, Nat.reduceEqDiff, Nat.reduceLT, Int.reduceToNat, fct]) | (refine brO_n ?_ ?_ <;> intro hb hc <;> first | (with_reducible exact False.elim hc) | (exfalso; omega) | (simp only [hb]; clear hb)) | ((first | refine zalc ?_ | ((with_reducible refine gBox ?_); refine zbox ?_)); intro gb wb hS) | (refine G.cn ?_ ?_ <;> intro hc <;> first | (with_reducible exact False.elim hc) | (exfalso; omega) | skip))) <;> (try clear fct)
  have hS := hS.newB 5
  refine G.loop (fun x w' => ∃ (k gB : Nat), k ≤ r.length ∧ x 1 = v ∧ x 2 = .bool first ∧ x 3 = .pointer (some ⟨g3, 0, none⟩) ∧ x 11 = .pointer (some ⟨gB, 0, none⟩) ∧ x 32 = v ∧ x 33 = I r.length ∧ x 34 = I k ∧ Sep w w' [bldC gB 165 5 (lineF d r.length first 0 (r.take k)), boxC g3 23 [U d.dl, U d.q, I d.e]]) (fun x _ => r.length - toN (x 34)) ?_ ?_
  · exact ⟨0, _, Nat.zero_le _, by simp only [push_cast, ↓reduceIte, Nat.reduceAdd, Nat.reduceLeDiff, Nat.reduceEqDiff, Nat.reduceLT, Int.reduceToNat, q1], by simp only [push_cast, ↓reduceIte, Nat.reduceAdd, Nat.reduceLeDiff, Nat.reduceEqDiff, Nat.reduceLT, Int.reduceToNat, q2], by simp only [push_cast, ↓reduceIte, Nat.reduceAdd, Nat.reduceLeDiff, Nat.reduceEqDiff, Nat.reduceLT, Int.reduceToNat, q3], by simp only [push_cast, ↓reduceIte, Nat.reduceAdd, Nat.reduceLeDiff, Nat.reduceEqDiff, Nat.reduceLT, Int.reduceToNat] <;> rfl, by simp only [push_cast, ↓reduceIte, Nat.reduceAdd, Nat.reduceLeDiff, Nat.reduceEqDiff, Nat.reduceLT, Int.reduceToNat, q1], by simp only [push_cast, ↓reduceIte, Nat.reduceAdd, Nat.reduceLeDiff, Nat.reduceEqDiff, Nat.reduceLT, Int.reduceToNat], by simp only [push_cast, ↓reduceIte, Nat.reduceAdd, Nat.reduceLeDiff, Nat.reduceEqDiff, Nat.reduceLT, Int.reduceToNat] <;> rfl, hS⟩
  · clear hS q1 q2 q3
    rintro u wl ⟨k, gB, hk, q1, q2, q3, q11, q32, q33, q34, hS⟩ ih
    have hm : toN (u 34) = k := by rw [q34]; simp [toN]
    have hfl := lineF_len d r.length first 1000000 (r.take k) 0 (fun f hf => hN f (List.mem_of_mem_take hf))
    have htl : (r.take k).length ≤ 10000 := by rw [List.length_take]; omega
    have hfl2 : (lineF d r.length first 0 (r.take k)).length ≤ 20000030000 := Nat.le_trans hfl (Nat.le_trans (Nat.mul_le_mul_right _ htl) (by decide))
    clear hfl
    by_cases hkk : (k : Int) < r.length
    · have hst := lineF_step d r.length first r k hkk
      have hfk := hN _ (getD_mem r k hkk)
      have hwl := fun a b => wrM_len d (r.getD k default) a b
      have hn1 : ((r.length : Int) == 1) = decide (r.length = 1) := by rw [Bool.eq_iff_iff]; simp; omega
      by_cases hk0 : k = 0
      · subst hk0
        have hpc : pieceM d r.length first 0 (r.getD 0 default) = wrM d (r.getD 0 default) (decide (r.length = 1)) first := by simp [pieceM]
        have hwl2 := hwl (decide (r.length = 1)) first
        rw [hpc] at hst
        cases first
        all_goals
          (have fct := (And.intro @q1 (And.intro @q2 (And.intro @q3 (And.intro @q11 (And.intro @q32 (And.intro @q33 (And.intro @q34 @hn1))))))); repeat' (first | ((with_reducible apply G.a); exact rfl) | refine G.reg fun K hK => ?_ | (with_reducible (refine hK _ _ ?_); clear hK K) | (have hk := hK; clear hk; simp (disch := first | exact dis | fail) only [push_cast, ↓reduceIte, Nat.reduceAdd, Nat.reduceLeDiff, Nat.reduceEqDiff, Nat.reduceLT, Int.reduceToNat, fct]) | (refine brO_n ?_ ?_ <;> intro hb hc <;> first | (with_reducible exact False.elim hc) | (exfalso; omega) | (simp only [hb]; clear hb)) | ((first | refine zalc ?_ | ((with_reducible refine gBox ?_); refine zbox ?_)); intro gb wb hS) | (refine zcp 106 (written_spec d hd _ _ _ _ (by omega)) ?_; intro wb hS) | ((with_reducible (show CallK _ 105 _ _ _ _ _)); refine zco 105 (bwbI_spec (bD d) hb0 hS (by repeat constructor) (by first | omega | (simp only [lens]; omega))) ?_; rintro vb wb ⟨rfl, hS⟩) | ((with_reducible (show CallK _ 78 _ _ _ _ _)); refine zco 78 (bws_spec hS (by repeat constructor) (by first | omega | (simp only [lens]; omega)) (by first | omega | (simp only [lens]; omega))) ?_; rintro vb wb ⟨rfl, hS⟩) | (refine G.cn ?_ ?_ <;> intro hc <;> first | (with_reducible exact False.elim hc) | (exfalso; omega) | skip))) <;> (try clear fct)
          all_goals
            rw [← hst] at hS
            have fct := (And.intro @q1 (And.intro @q2 (And.intro @q3 (And.intro @q11 (And.intro @q32 (And.intro @q33 @q34)))))); refine ih _ _ ⟨0 + 1, gB, by omega, by exact sf, by exact sf, by exact sf, by exact sf, by exact sf, by exact sf, by exact sf, (Sep.sub hS (by repeat first | exact Sub.rfl' | exact Sub.n | (refine Sub.c (by repeat constructor) ?_) | refine Sub.skip ?_))⟩ ?_
            rw [hm]; simp only [push_cast, ↓reduceIte, Nat.reduceAdd, Nat.reduceLeDiff, Nat.reduceEqDiff, Nat.reduceLT, Int.reduceToNat, toN_i, q1, q2, q3, q11, q32, q33, q34]; omega
      · have hkb : ((k : Int) == 0) = false := by simp; omega
        have hpc : pieceM d r.length first k (r.getD k default) = [bD d] ++ wrM d (r.getD k default) (decide (r.length = 1)) false := by simp [pieceM, hk0, show 0 < k by omega]
        have hwl2 := hwl (decide (r.length = 1)) false
        rw [hpc, ← List.append_assoc] at hst
        cases first
        all_goals
          (have fct := (And.intro @q1 (And.intro @q2 (And.intro @q3 (And.intro @q11 (And.intro @q32 (And.intro @q33 (And.intro @q34 (And.intro @hn1 @hkb)))))))); repeat' (first | ((with_reducible apply G.a); exact rfl) | refine G.reg fun K hK => ?_ | (with_reducible (refine hK _ _ ?_); clear hK K) | (have hk := hK; clear hk; simp (disch := first | exact dis | fail) only [push_cast, ↓reduceIte, Nat.reduceAdd, Nat.reduceLeDiff, Nat.reduceEqDiff, Nat.reduceLT, Int.reduceToNat, fct]) | (refine brO_n ?_ ?_ <;> intro hb hc <;> first | (with_reducible exact False.elim hc) | (exfalso; omega) | (simp only [hb]; clear hb)) | ((first | refine zalc ?_ | ((with_reducible refine gBox ?_); refine zbox ?_)); intro gb wb hS) | (refine zcp 106 (written_spec d hd _ _ _ _ (by omega)) ?_; intro wb hS) | ((with_reducible (show CallK _ 105 _ _ _ _ _)); refine zco 105 (bwbI_spec (bD d) hb0 hS (by repeat constructor) (by first | omega | (simp only [lens]; omega))) ?_; rintro vb wb ⟨rfl, hS⟩) | ((with_reducible (show CallK _ 78 _ _ _ _ _)); refine zco 78 (bws_spec hS (by repeat constructor) (by first | omega | (simp only [lens]; omega)) (by first | omega | (simp only [lens]; omega))) ?_; rintro vb wb ⟨rfl, hS⟩) | (refine G.cn ?_ ?_ <;> intro hc <;> first | (with_reducible exact False.elim hc) | (exfalso; omega) | skip))) <;> (try clear fct)
          all_goals
            rw [← hst] at hS
            have fct := (And.intro @q1 (And.intro @q2 (And.intro @q3 (And.intro @q11 (And.intro @q32 (And.intro @q33 @q34)))))); refine ih _ _ ⟨k + 1, gB, by omega, by exact sf, by exact sf, by exact sf, by exact sf, by exact sf, by exact sf, by exact sf, (Sep.sub hS (by repeat first | exact Sub.rfl' | exact Sub.n | (refine Sub.c (by repeat constructor) ?_) | refine Sub.skip ?_))⟩ ?_
            rw [hm]; simp only [push_cast, ↓reduceIte, Nat.reduceAdd, Nat.reduceLeDiff, Nat.reduceEqDiff, Nat.reduceLT, Int.reduceToNat, toN_i, q1, q2, q3, q11, q32, q33, q34]; omega
    · have hta : r.take k = r := List.take_of_length_le (by omega)
      rw [hta] at hS hfl2
      have hel : (endM d).length ≤ 2 := by unfold endM; split <;> simp
      (have fct := (And.intro @q1 (And.intro @q2 (And.intro @q3 (And.intro @q11 (And.intro @q32 (And.intro @q33 @q34)))))); repeat' (first | ((with_reducible apply G.a); exact rfl) | refine G.reg fun K hK => ?_ | (with_reducible (refine hK _ _ ?_); clear hK K) | (have hk := hK; clear hk; simp (disch := first | exact dis | fail) only [push_cast, ↓reduceIte, Nat.reduceAdd, Nat.reduceLeDiff, Nat.reduceEqDiff, Nat.reduceLT, Int.reduceToNat, fct]) | (refine brO_n ?_ ?_ <;> intro hb hc <;> first | (with_reducible exact False.elim hc) | (exfalso; omega) | (simp only [hb]; clear hb)) | ((first | refine zalc ?_ | ((with_reducible refine gBox ?_); refine zbox ?_)); intro gb wb hS) | (refine zcp 107 (dend_spec d hrt _) ?_; intro wb hS) | ((with_reducible (show CallK _ 78 _ _ _ _ _)); refine zco 78 (bws_spec hS (by repeat constructor) (by first | omega | (simp only [lens]; omega)) (by first | omega | (simp only [lens]; omega))) ?_; rintro vb wb ⟨rfl, hS⟩) | ((with_reducible (show CallK _ 79 _ _ _ _ _)); refine zco 79 (bst_spec hS (by repeat constructor)) ?_; rintro vb wb ⟨rfl, hS⟩) | (refine G.cn ?_ ?_ <;> intro hc <;> first | (with_reducible exact False.elim hc) | (exfalso; omega) | skip))) <;> (try clear fct)
      all_goals
        (have fct := (And.intro @q1 (And.intro @q2 (And.intro @q3 (And.intro @q11 (And.intro @q32 (And.intro @q33 @q34)))))); (first | refine G.r1 ?_ | refine G.r2 ?_ | refine G.r3 ?_ | refine G.r0 ?_ | refine G.d0 ?_); (try simp (disch := first | exact dis | fail) only [push_cast, ↓reduceIte, Nat.reduceAdd, Nat.reduceLeDiff, Nat.reduceEqDiff, Nat.reduceLT, Int.reduceToNat, fct]); (try clear fct))
        exact ⟨rfl, Sep.xt (by assumption)⟩
set_option maxHeartbeats 1000000 in
theorem wline_pre {n : Nat} {TT : MC} (d : Dl) (first : Bool) (w : World) (hr : Rd w eS v r) (hN : ∀ f ∈ r, f.length ≤ 1000000) (hl : r.length ≤ 10000)
    (ht : ∀ {ρ : Fr} {w' : World} {g3 : Nat}, rightD d = true → mayR r = 0 → ρ 1 = v → ρ 2 = .bool first → ρ 3 = .pointer (some ⟨g3, 0, none⟩) → Sep w w' [boxC g3 23 [U d.dl, U d.q, I d.e]] → G Tryz.prog Tryz.f77 n [.c TT] (fun res w' => res = lineV d r first ∧ Ext w w') ρ w') :
    G Tryz.prog Tryz.f77 n [.c (wlineV TT)] (fun res w' => res = lineV d r first ∧ Ext w w') (frL 0 [(.agg #[U d.dl, U d.q, I d.e]), v, .bool first]) w := by
  unfold wlineV c77
  dsimp only
  have hS := Sep.start w
  cases hrt : rightD d
  · (have fct := @hrt; repeat' (first | ((with_reducible apply G.a); exact rfl) | refine G.reg fun K hK => ?_ | (with_reducible (refine hK _ _ ?_); clear hK K) | (have hk := hK; clear hk; simp (disch := first | exact dis | fail) only [push_cast, ↓reduceIte, Nat.reduceAdd, Nat.reduceLeDiff, Nat.reduceEqDiff, Nat.reduceLT, Int.reduceToNat, fct]) | (refine brO_n ?_ ?_ <;> intro hb hc <;> first | (with_reducible exact False.elim hc) | (exfalso; omega) | (simp only [hb]; clear hb)) | ((first | refine zalc ?_ | ((with_reducible refine gBox ?_); refine zbox ?_)); intro gb wb hS) | (refine zcp 29 (checkD_spec d _) ?_; intro wb hS) | (refine G.cn ?_ ?_ <;> intro hc <;> first | (with_reducible exact False.elim hc) | (exfalso; omega) | skip))) <;> (try clear fct)
    all_goals
      (first | refine G.r1 ?_ | refine G.r2 ?_ | refine G.r3 ?_ | refine G.r0 ?_ | refine G.d0 ?_); (try simp (disch := first | exact dis | fail) only [push_cast, ↓reduceIte, Nat.reduceAdd, Nat.reduceLeDiff, Nat.reduceEqDiff, Nat.reduceLT, Int.reduceToNat, fct])
      exact ⟨by unfold lineV; rw [if_pos hrt], Sep.xt (by assumption)⟩
  · by_cases hr0 : r = []
    · have hl0 : r.length = 0 := by rw [hr0]; rfl
      (have fct := (And.intro @hrt @hl0); repeat' (first | ((with_reducible apply G.a); exact rfl) | refine G.reg fun K hK => ?_ | (with_reducible (refine hK _ _ ?_); clear hK K) | (have hk := hK; clear hk; simp (disch := first | exact dis | fail) only [push_cast, ↓reduceIte, Nat.reduceAdd, Nat.reduceLeDiff, Nat.reduceEqDiff, Nat.reduceLT, Int.reduceToNat, fct]) | (refine brO_n ?_ ?_ <;> intro hb hc <;> first | (with_reducible exact False.elim hc) | (exfalso; omega) | (simp only [hb]; clear hb)) | ((first | refine zalc ?_ | ((with_reducible refine gBox ?_); refine zbox ?_)); intro gb wb hS) | (refine zcp 29 (checkD_spec d _) ?_; intro wb hS) | (refine G.cn ?_ ?_ <;> intro hc <;> first | (with_reducible exact False.elim hc) | (exfalso; omega) | skip))) <;> (try clear fct)
      all_goals
        (first | refine G.r1 ?_ | refine G.r2 ?_ | refine G.r3 ?_ | refine G.r0 ?_ | refine G.d0 ?_); (try simp (disch := first | exact dis | fail) only [push_cast, ↓reduceIte, Nat.reduceAdd, Nat.reduceLeDiff, Nat.reduceEqDiff, Nat.reduceLT, Int.reduceToNat, fct])
        exact ⟨by unfold lineV mayR; rw [if_neg (by rw [hrt]; decide), if_pos hr0, if_neg (by decide)], Sep.xt (by assumption)⟩
    · have hl0 : 0 < r.length := List.length_pos_iff.2 hr0
      (have fct := @hrt; repeat' (first | ((with_reducible apply G.a); exact rfl) | refine G.reg fun K hK => ?_ | (with_reducible (refine hK _ _ ?_); clear hK K) | (have hk := hK; clear hk; simp (disch := first | exact dis | fail) only [push_cast, ↓reduceIte, Nat.reduceAdd, Nat.reduceLeDiff, Nat.reduceEqDiff, Nat.reduceLT, Int.reduceToNat, fct]) | (refine brO_n ?_ ?_ <;> intro hb hc <;> first | (with_reducible exact False.elim hc) | (exfalso; omega) | (simp only [hb]; clear hb)) | ((first | refine zalc ?_ | ((with_reducible refine gBox ?_); refine zbox ?_)); intro gb wb hS) | (refine zcp 29 (checkD_spec d _) ?_; intro wb hS) | (refine G.cn ?_ ?_ <;> intro hc <;> first | (with_reducible exact False.elim hc) | (exfalso; omega) | skip))) <;> (try clear fct)
      rename_i g3 _ _ _
      refine G.loop (fun x w' => ∃ (k g3 : Nat), k ≤ r.length ∧ x 1 = v ∧ x 2 = .bool first ∧ x 3 = .pointer (some ⟨g3, 0, none⟩) ∧ x 22 = v ∧ x 23 = I r.length ∧ x 24 = I k ∧ (r.drop k).all validM = r.all validM ∧ Sep w w' [boxC g3 23 [U d.dl, U d.q, I d.e]]) (fun x _ => r.length - toN (x 24)) ?_ ?_
      · exact ⟨0, _, Nat.zero_le _, by exact sf, by exact sf, by exact sf, by exact sf, by exact sf, by exact sf, rfl, (Sep.sub hS (by repeat first | exact Sub.rfl' | exact Sub.n | (refine Sub.c (by repeat constructor) ?_) | refine Sub.skip ?_))⟩
      · clear hS
        rintro u wl ⟨k, g3, hk, q1, q2, q3, q22, q23, q24, hv, hS⟩ ih
        have hm : toN (u 24) = k := by rw [q24]; simp [toN]
        by_cases hkk : (k : Int) < r.length
        · have hst := allV_step r k hkk
          have hfk := hN _ (getD_mem r k hkk)
          rw [hv] at hst
          cases hvk : validM (r.getD k default)
          · rw [hvk, Bool.false_and] at hst
            (have fct := (And.intro @q1 (And.intro @q2 (And.intro @q3 (And.intro @q22 (And.intro @q23 (And.intro @q24 @hvk)))))); repeat' (first | ((with_reducible apply G.a); exact rfl) | refine G.reg fun K hK => ?_ | (with_reducible (refine hK _ _ ?_); clear hK K) | (have hk := hK; clear hk; simp (disch := first | exact dis | fail) only [push_cast, ↓reduceIte, Nat.reduceAdd, Nat.reduceLeDiff, Nat.reduceEqDiff, Nat.reduceLT, Int.reduceToNat, fct]) | (refine brO_n ?_ ?_ <;> intro hb hc <;> first | (with_reducible exact False.elim hc) | (exfalso; omega) | (simp only [hb]; clear hb)) | ((first | refine zalc ?_ | ((with_reducible refine gBox ?_); refine zbox ?_)); intro gb wb hS) | (refine zcp 52 (valid_spec _ _ (by omega)) ?_; intro wb hS) | (refine G.cn ?_ ?_ <;> intro hc <;> first | (with_reducible exact False.elim hc) | (exfalso; omega) | skip))) <;> (try clear fct)
            all_goals
              (have fct := (And.intro @q1 (And.intro @q2 (And.intro @q3 (And.intro @q22 (And.intro @q23 @q24))))); (first | refine G.r1 ?_ | refine G.r2 ?_ | refine G.r3 ?_ | refine G.r0 ?_ | refine G.d0 ?_); (try simp (disch := first | exact dis | fail) only [push_cast, ↓reduceIte, Nat.reduceAdd, Nat.reduceLeDiff, Nat.reduceEqDiff, Nat.reduceLT, Int.reduceToNat, fct]); (try clear fct))
              have hmr : mayR r = 14 := by unfold mayR; rw [if_neg hr0, if_neg (show ¬ r.all validM = true by rw [hst]; decide)]
              exact ⟨by unfold lineV; rw [if_neg (by rw [hrt]; decide), hmr, if_neg (by decide)], Sep.xt (by assumption)⟩
          · rw [hvk, Bool.true_and] at hst
            (have fct := (And.intro @q1 (And.intro @q2 (And.intro @q3 (And.intro @q22 (And.intro @q23 (And.intro @q24 @hvk)))))); repeat' (first | ((with_reducible apply G.a); exact rfl) | refine G.reg fun K hK => ?_ | (with_reducible (refine hK _ _ ?_); clear hK K) | (have hk := hK; clear hk; simp (disch := first | exact dis | fail) only [push_cast, ↓reduceIte, Nat.reduceAdd, Nat.reduceLeDiff, Nat.reduceEqDiff, Nat.reduceLT, Int.reduceToNat, fct]) | (refine brO_n ?_ ?_ <;> intro hb hc <;> first | (with_reducible exact False.elim hc) | (exfalso; omega) | (simp only [hb]; clear hb)) | ((first | refine zalc ?_ | ((with_reducible refine gBox ?_); refine zbox ?_)); intro gb wb hS) | (refine zcp 52 (valid_spec _ _ (by omega)) ?_; intro wb hS) | (refine G.cn ?_ ?_ <;> intro hc <;> first | (with_reducible exact False.elim hc) | (exfalso; omega) | skip))) <;> (try clear fct)
            all_goals
              have fct := (And.intro @q1 (And.intro @q2 (And.intro @q3 (And.intro @q22 (And.intro @q23 @q24))))); refine ih _ _ ⟨k + 1, g3, by omega, by exact sf, by exact sf, by exact sf, by exact sf, by exact sf, by exact sf, hst.symm, (Sep.sub hS (by repeat first | exact Sub.rfl' | exact Sub.n | (refine Sub.c (by repeat constructor) ?_) | refine Sub.skip ?_))⟩ ?_
              rw [hm]; simp only [push_cast, ↓reduceIte, Nat.reduceAdd, Nat.reduceLeDiff, Nat.reduceEqDiff, Nat.reduceLT, Int.reduceToNat, toN_i, q1, q2, q3, q22, q23, q24]; omega
        · rw [List.drop_eq_nil_of_le (by omega)] at hv
          have hmr : mayR r = 0 := by unfold mayR; rw [if_neg hr0, if_pos (show r.all validM = true from hv.symm)]
          (have fct := (And.intro @q1 (And.intro @q2 (And.intro @q3 (And.intro @q22 (And.intro @q23 @q24))))); repeat' (first | ((with_reducible apply G.a); exact rfl) | refine G.reg fun K hK => ?_ | (with_reducible (refine hK _ _ ?_); clear hK K) | (have hk := hK; clear hk; simp (disch := first | exact dis | fail) only [push_cast, ↓reduceIte, Nat.reduceAdd, Nat.reduceLeDiff, Nat.reduceEqDiff, Nat.reduceLT, Int.reduceToNat, fct]) | (refine brO_n ?_ ?_ <;> intro hb hc <;> first | (with_reducible exact False.elim hc) | (exfalso; omega) | (simp only [hb]; clear hb)) | ((first | refine zalc ?_ | ((with_reducible refine gBox ?_); refine zbox ?_)); intro gb wb hS) | (refine G.cn ?_ ?_ <;> intro hc <;> first | (with_reducible exact False.elim hc) | (exfalso; omega) | skip))) <;> (try clear fct)
          all_goals exact ht hrt hmr (by simp only [push_cast, ↓reduceIte, Nat.reduceAdd, Nat.reduceLeDiff, Nat.reduceEqDiff, Nat.reduceLT, Int.reduceToNat, q1, q2, q3, q22, q23, q24]) (by simp only [push_cast, ↓reduceIte, Nat.reduceAdd, Nat.reduceLeDiff, Nat.reduceEqDiff, Nat.reduceLT, Int.reduceToNat, q1, q2, q3, q22, q23, q24]) (by simp only [push_cast, ↓reduceIte, Nat.reduceAdd, Nat.reduceLeDiff, Nat.reduceEqDiff, Nat.reduceLT, Int.reduceToNat, q1, q2, q3, q22, q23, q24]) hS
theorem line_spec (d : Dl) (hd : byD d) (first : Bool) (w : World) (hr : Rd w eS v r) (hN : ∀ f ∈ r, f.length ≤ 1000000) (hl : r.length ≤ 10000) : Pu Tryz.prog 77 #[(.agg #[U d.dl, U d.q, I d.e]), v, .bool first] w (lineV d r first) := by
  refine in77 ?_
  change G _ _ _ [.c (wlineV wlineT)] _ _ _
  refine wline_pre d first w hr hN hl ?_
  intro ρ w' g3 hrt hm q1 q2 q3 hS
  have e : lineV d r first = .tuple #[S (lineM d r first), I 0] := by unfold lineV; rw [if_neg (by rw [hrt]; decide), if_pos hm]
  rw [e]
  exact wline_tail d hd hrt first hr hN hl q1 q2 q3 hS
end
end Go.Proofs.YtdikpaochhacmaaGreatDoor
namespace Go.Proofs.YtdikpaochhacmaaGreatDoor
set_option linter.unusedSimpArgs false
set_option linter.unusedVariables false
attribute [local irreducible] SemK UnitK StK AlcK BslK CallK CallV Instr.box Builtin.append_ Instr.makeSlice Instr.makeMap Instr.lookup Instr.mapUpdate Instr.sliceAt convert
open Go.RowKit
end Go.Proofs.YtdikpaochhacmaaGreatDoor
