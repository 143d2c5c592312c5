/- Texts of the proof, joined. -/
import Derived.Test.YtdikpaochhacmaaGreatDoortP10
import Derived.Test.YtdikpaochhacmaaGreatDoortBu
import Derived.Test.YtdikpaochhacmaaGreatDoortV06
namespace Go.Proofs.YtdikpaochhacmaaGreatDoor
set_option linter.unusedSimpArgs false
set_option linter.unusedVariables false
attribute [local irreducible] SemK UnitK StK AlcK BslK CallK CallV Instr.box Builtin.append_ Instr.makeSlice Instr.makeMap Instr.lookup Instr.mapUpdate Instr.sliceAt convert
open Go.RowKit
section
variable {w : World}
def c168 : MC := (.seq (.reg [qq 4 (.mv (ki 0))]) (.seq (.reg [qm 5 0, qm 6 1, qq 7 (.raw (.call ⟨(.value (.func 169)), #[(.tmp 5), (.tmp 6)], #[9, 5]⟩) 3), qm 4 7]) .ret))
theorem k168 : conv Tryz.prog 8 (Tryz.f168.body.getD .skip) = c168 := by kernel_rfl
theorem in168 {a0 a1 : Value} {w : World} {R : Value → World → Prop} (h : G Tryz.prog Tryz.f168 8 [.c c168] R (frL 0 [a0, a1]) w) : Ret Tryz.prog 168 #[a0, a1] w R := G.enter (args := [a0, a1]) Tryz.func168 (c := Tryz.f168.body.getD .skip) (by kernel_rfl) (by kernel_rfl) (by simp) k168 h
theorem ib1_spec (f : Str) (c : UInt8) (n : Int) (hn : (c.toNat : Int) = n) (w : World) : Pu Tryz.prog 168 #[S f, U n] w (I (Lib.indexByte f c)) := by
  refine in168 ?_
  have hS := Sep.start w
  repeat' (first | ((with_reducible apply G.a); exact rfl) | refine G.reg fun K hK => ?_ | (with_reducible (refine hK _ _ ?_); clear hK K) | (with_reducible (refine hK _ ?_); clear hK K; intro wd hxd; have hS := Sep.ext (by assumption) hxd) | ((first | have hk := hK | have hk := hK2); clear hk; simp (disch := (first | exact dis | fail)) only [push_cast, ↓reduceIte, Nat.reduceAdd, Nat.reduceLeDiff, Nat.reduceEqDiff, Nat.reduceLT, Int.reduceToNat, O_ibs]) | ((first | refine brO_mk ?_ ?_ | refine brQ_mk ?_ ?_) <;> intro hb <;> (try simp only [Bool.not_eq_true', Bool.not_eq_false'] at hb) <;> have hc := hb <;> (try simp only [hcs, reduceCtorEq] at hc) <;> (try (exfalso; omega)) <;> simp only [hb] <;> clear hb) | (refine zalc ?_; intro gb wb hS) | (refine zbsl ?_; intro gb wb hS) | ((with_reducible (show SemK _ (Instr.box _ _) _ _ _ _)); refine zbox ?_; intro gb wb hS) | ((with_reducible (show StK _ _ (Value.pointer _) _ _ _ _ _)); refine zst ?_; intro wb hS; (try simp only [sets] at hS)) | (refine zcv ?_) | (refine ibK c ?_ hn) | (refine G.drt mixed fun K hK wd hxd => ?_; have hS := Sep.ext (by assumption) hxd) | with_reducible refine OT_leaf ?_ | (with_reducible refine OT_tail fun K2 hK2 => ?_) | (with_reducible (refine hK2 _ ?_); clear hK2 K2; intro wd hxd; have hS := Sep.ext (by assumption) hxd) | with_reducible refine OT_br fun K2 hK2 => ?_ | (refine hK2 _ _ ?_ ?_ <;> clear hK2 K2) | refine G.drg mixed fun K hK => ?_ | (refine G.cond (by simp only [push_cast, ↓reduceIte, Nat.reduceAdd, Nat.reduceLeDiff, Nat.reduceEqDiff, Nat.reduceLT, Int.reduceToNat, O_ibs]; rfl) ?_ ?_ <;> intro hc <;> (try simp only [hcs, reduceCtorEq] at hc) <;> (try (exfalso; omega))))
  (first | refine G.r1 ?_ | refine G.r2 ?_ | refine G.r3 ?_ | refine G.r0 ?_ | refine G.d0 ?_); (try simp (disch := first | exact dis | fail) only [push_cast, ↓reduceIte, Nat.reduceAdd, Nat.reduceLeDiff, Nat.reduceEqDiff, Nat.reduceLT, Int.reduceToNat, fct])
  exact Sep.xt (by assumption)
def c164 : MC := (.seq (.reg [qq 4 (.mv (ki 0))]) (.seq (.reg [qm 5 0, qm 6 1, qq 7 (.call 168 [(.tmp 5), (.tmp 6)]), qm 4 7]) .ret))
theorem k164 : conv Tryz.prog 8 (Tryz.f164.body.getD .skip) = c164 := by kernel_rfl
theorem in164 {a0 a1 : Value} {w : World} {R : Value → World → Prop} (h : G Tryz.prog Tryz.f164 8 [.c c164] R (frL 0 [a0, a1]) w) : Ret Tryz.prog 164 #[a0, a1] w R := G.enter (args := [a0, a1]) Tryz.func164 (c := Tryz.f164.body.getD .skip) (by kernel_rfl) (by kernel_rfl) (by simp) k164 h
theorem ib_spec (f : Str) (c : UInt8) (n : Int) (hn : (c.toNat : Int) = n) (w : World) : Pu Tryz.prog 164 #[S f, U n] w (I (Lib.indexByte f c)) := by
  refine in164 ?_
  have hS := Sep.start w
  repeat' (first | ((with_reducible apply G.a); exact rfl) | refine G.reg fun K hK => ?_ | (with_reducible (refine hK _ _ ?_); clear hK K) | (have hk := hK; clear hk; simp (disch := first | exact dis | fail) only [push_cast, ↓reduceIte, Nat.reduceAdd, Nat.reduceLeDiff, Nat.reduceEqDiff, Nat.reduceLT, Int.reduceToNat, fct]) | (refine zcp 168 (ib1_spec f c _ hn _) ?_; intro wb hS))
  (first | refine G.r1 ?_ | refine G.r2 ?_ | refine G.r3 ?_ | refine G.r0 ?_ | refine G.d0 ?_); (try simp (disch := first | exact dis | fail) only [push_cast, ↓reduceIte, Nat.reduceAdd, Nat.reduceLeDiff, Nat.reduceEqDiff, Nat.reduceLT, Int.reduceToNat, fct])
  exact Sep.xt (by assumption)
def c150 : MC := (.seq (.reg [qq 4 (.raw (.box 23 (.tmp 0)) 0), qq 8 (.mv (ki 0))]) (.seq (.blk 0 (.seq (.reg [qm 10 1, qq 11 (.fad 0 (.tmp 4)), qq 12 (.ld none (.tmp 11)), qq 13 (.call 164 [(.tmp 10), (.tmp 12)]), qq 14 (.bin .geq (.tmp 13) (ki 0)), qm 9 14]) (.cond (.tmp 9) (.seq (.reg [qq 8 (.mv (ki 1))]) .ret) (.seq (.reg [qm 16 1, qq 17 (.fad 1 (.tmp 4)), qq 18 (.ld none (.tmp 17)), qq 19 (.call 164 [(.tmp 16), (.tmp 18)]), qq 20 (.bin .geq (.tmp 19) (ki 0)), qm 15 20]) (.cond (.tmp 15) (.seq (.reg [qq 8 (.mv (ki 2))]) .ret) (.seq (.reg [qm 22 1, qq 23 (.call 164 [(.tmp 22), (.const (.int .u8 13))]), qq 24 (.bin .geq (.tmp 23) (ki 0)), qm 25 24, qmf 25 26 1, qf 25 27 (.call 164 [(.tmp 26), (.const (.int .u8 10))]), qf 25 28 (.bin .geq (.tmp 27) (ki 0)), qq 29 (.pick (.tmp 25) (kb true) (.tmp 28)), qm 21 29]) (.cond (.tmp 21) (.seq (.reg [qq 8 (.mv (ki 3))]) .ret) (.seq (.reg [qm 31 1, qq 32 (.bin .eql (.tmp 31) (.const (S []))), qm 33 32, qmt 33 34 2, qq 35 (.pick (.tmp 33) (.tmp 34) (kb false)), qm 30 35]) (.cond (.tmp 30) (.seq (.reg [qq 8 (.mv (ki 4))]) .ret) (.seq (.reg [qm 37 3, qm 38 37, qmt 38 39 1, qt 38 40 (.call 71 [(.tmp 39), (.const (S [239, 187, 191]))]), qq 41 (.pick (.tmp 38) (.tmp 40) (kb false)), qm 36 41]) (.cond (.tmp 36) (.seq (.reg [qq 8 (.mv (ki 5))]) .ret) .skip))))))))))) (.seq (.reg [qq 8 (.mv (ki 0))]) .ret)))
theorem k150 : conv Tryz.prog 42 (Tryz.f150.body.getD .skip) = c150 := by kernel_rfl
theorem in150 {a0 a1 a2 a3 : Value} {w : World} {R : Value → World → Prop} (h : G Tryz.prog Tryz.f150 42 [.c c150] R (frL 0 [a0, a1, a2, a3]) w) : Ret Tryz.prog 150 #[a0, a1, a2, a3] w R := G.enter (args := [a0, a1, a2, a3]) Tryz.func150 (c := Tryz.f150.body.getD .skip) (by kernel_rfl) (by kernel_rfl) (by simp) k150 h
set_option maxHeartbeats 1000000 in
set_option maxRecDepth 8000 in
theorem why_spec (d : Dl) (hd : byD d) (f : Str) (a b : Bool) (w : World) (hl : f.length ≤ 1000000000) : Pu Tryz.prog 150 #[(.agg #[U d.dl, U d.q, I d.e]), S f, .bool a, .bool b] w (I (whyM d f a b)) := by
  refine in150 ?_
  have hS := Sep.start w
  obtain ⟨d0, d1, d2, d3⟩ := hd
  have i1 := idx_has f (bD d)
  have i2 := idx_has f (bQ d)
  have i3 := idx_has f 13
  have i4 := idx_has f 10
  (have fct := (And.intro @i1 (And.intro @i2 (And.intro @i3 @i4))); repeat' (first | ((with_reducible apply G.a); exact rfl) | refine G.reg fun K hK => ?_ | (with_reducible (refine hK _ _ ?_); clear hK K) | (have hk := hK; clear hk; simp (disch := first | exact dis | fail) only [push_cast, ↓reduceIte, Nat.reduceAdd, Nat.reduceLeDiff, Nat.reduceEqDiff, Nat.reduceLT, Int.reduceToNat, fct]) | (refine brO_n ?_ ?_ <;> intro hb hc <;> first | (with_reducible exact False.elim hc) | (exfalso; omega) | (simp only [hb]; clear hb)) | (((with_reducible refine gBox ?_); refine zbox ?_); intro gb wb hS) | ((with_reducible (show CallK _ 164 [_, U d.dl] _ _ _ _)); refine zcp 164 (ib_spec f (bD d) _ (byte_of ⟨d0, d1⟩) _) ?_; intro wb hS) | ((with_reducible (show CallK _ 164 [_, U d.q] _ _ _ _)); refine zcp 164 (ib_spec f (bQ d) _ (byte_of ⟨d2, d3⟩) _) ?_; intro wb hS) | ((with_reducible (show CallK _ 164 [_, U 13] _ _ _ _)); refine zcp 164 (ib_spec f 13 _ (by decide) _) ?_; intro wb hS) | ((with_reducible (show CallK _ 164 [_, U 10] _ _ _ _)); refine zcp 164 (ib_spec f 10 _ (by decide) _) ?_; intro wb hS) | (refine zcp 71 (shp_spec f _ _ hl (by decide)) ?_; intro wb hS) | (refine G.cn ?_ ?_ <;> intro hc <;> first | (with_reducible exact False.elim hc) | (exfalso; omega) | skip))) <;> (try clear fct)
  all_goals
    (first | refine G.r1 ?_ | refine G.r2 ?_ | refine G.r3 ?_ | refine G.r0 ?_ | refine G.d0 ?_); (try simp (disch := first | exact dis | fail) only [push_cast, ↓reduceIte, Nat.reduceAdd, Nat.reduceLeDiff, Nat.reduceEqDiff, Nat.reduceLT, Int.reduceToNat, fct])
    exact ⟨by clear hS; simp_all [whyM], Sep.xt (by assumption)⟩
end
end Go.Proofs.YtdikpaochhacmaaGreatDoor
namespace Go.Proofs.YtdikpaochhacmaaGreatDoor
set_option linter.unusedSimpArgs false
set_option linter.unusedVariables false
attribute [local irreducible] SemK UnitK StK AlcK BslK CallK CallV Instr.box Builtin.append_ Instr.makeSlice Instr.makeMap Instr.lookup Instr.mapUpdate Instr.sliceAt convert
open Go.RowKit
section
variable {w : World}
def cf128 : MC := (.seq (.reg [qq 4 (.raw (.box 23 (.tmp 0)) 0), qq 8 (.mv (kb false))]) (.seq (.reg [qq 9 (.ld (.some 3) (.tmp 4)), qm 10 1, qm 11 2, qm 12 3, qq 13 (.call 150 [(.tmp 9), (.tmp 10), (.tmp 11), (.tmp 12)]), qq 14 (.bin .neq (.tmp 13) (ki 0)), qm 8 14]) .ret))
theorem k128 : conv Tryz.prog 15 (Tryz.f128.body.getD .skip) = cf128 := by kernel_rfl
theorem in128 {a0 a1 a2 a3 : Value} {w : World} {R : Value → World → Prop} (h : G Tryz.prog Tryz.f128 15 [.c cf128] R (frL 0 [a0, a1, a2, a3]) w) : Ret Tryz.prog 128 #[a0, a1, a2, a3] w R := G.enter (args := [a0, a1, a2, a3]) Tryz.func128 (c := Tryz.f128.body.getD .skip) (by kernel_rfl) (by kernel_rfl) (by simp) k128 h
theorem need_spec (d : Dl) (hd : byD d) (f : Str) (a b : Bool) (w : World) (hl : f.length ≤ 1000000000) : Pu Tryz.prog 128 #[(.agg #[U d.dl, U d.q, I d.e]), S f, .bool a, .bool b] w (.bool (decide (0 < whyM d f a b))) := by
  refine in128 ?_
  have hS := Sep.start w
  have hp := whyM_pos d f a b
  repeat' (first | ((with_reducible apply G.a); exact rfl) | refine G.reg fun K hK => ?_ | (with_reducible (refine hK _ _ ?_); clear hK K) | (have hk := hK; clear hk; simp (disch := first | exact dis | fail) only [push_cast, ↓reduceIte, Nat.reduceAdd, Nat.reduceLeDiff, Nat.reduceEqDiff, Nat.reduceLT, Int.reduceToNat, fct]) | (((with_reducible refine gBox ?_); refine zbox ?_); intro gb wb hS) | (refine zcp 150 (why_spec d hd f a b _ hl) ?_; intro wb hS))
  all_goals
    (first | refine G.r1 ?_ | refine G.r2 ?_ | refine G.r3 ?_ | refine G.r0 ?_ | refine G.d0 ?_); (try simp (disch := first | exact dis | fail) only [push_cast, ↓reduceIte, Nat.reduceAdd, Nat.reduceLeDiff, Nat.reduceEqDiff, Nat.reduceLT, Int.reduceToNat, fct])
    exact ⟨by congr 1; apply Bool.eq_iff_iff.2; simp; omega, Sep.xt (by assumption)⟩
theorem bwbI_spec {g : Nat} {xs : Str} {L R : List Chk} {w w0 : World} {n : Int} (c : UInt8) (hn : (c.toNat : Int) = n) (hS : Sep w0 w L) (he : Ex (bldC g 165 5 xs) L R) (hl : xs.length ≤ 1000000000000) :
    Ret Tryz.prog 105 #[.pointer (some ⟨g, 0, none⟩), U n] w fun res w' => res = .nilIface ∧ Sep w0 w' (bldC g 165 5 (xs ++ [c]) :: R) := by
  subst hn; exact bwb_spec c hS he hl
theorem u8_ofI {b c : UInt8} {n : Int} (hc : (c.toNat : Int) = n) (h : (b.toNat : Int) = n) : b = c := UInt8.toNat_inj.1 (by omega)
theorem quoB_snoc0 (q : UInt8) (f : Str) (k : Nat) (hk : (k : Int) < f.length) : (f.take (k + 1)).flatMap (quoB q) = (f.take k).flatMap (quoB q) ++ quoB q (f.getD k 0) := quoB_snoc q f k hk
def c129l1 : MC := (.seq (.reg [qq 13 (.bin .lss (.tmp 12) (.tmp 11))]) (.seq (.cond (.tmp 13) .skip (.exit 0)) (.seq (.blk 1 (.seq (.reg [qm 14 12, qm 6 14]) (.seq (.seq (.drg [qm 15 1, qm 16 6, qq 17 (.idxS (.tmp 15) (.tmp 16)), qq 18 (.fad 1 (.tmp 2)), qq 19 (.ld none (.tmp 18)), qq 20 (.bin .eql (.tmp 17) (.tmp 19))] none) (.cond (.tmp 20) (.reg [qq 21 (.fad 1 (.tmp 2)), qq 22 (.ld none (.tmp 21)), qq 23 (.call 105 [(.tmp 5), (.tmp 22)])]) .skip)) (.reg [qm 24 1, qm 25 6, qq 26 (.idxS (.tmp 24) (.tmp 25)), qq 27 (.call 105 [(.tmp 5), (.tmp 26)])])))) (.reg [qq 28 (.bin .add (.tmp 12) (ki 1)), qm 12 28]))))
def c129 : MC := (.seq (.reg [qq 2 (.raw (.box 23 (.tmp 0)) 0), qq 4 (.mv (.const (S [])))]) (.seq (.reg [qq 5 (.alc 165 [(.pointer none), (.slice none 0 0)])]) (.seq (.reg [qq 7 (.fad 1 (.tmp 2)), qq 8 (.ld none (.tmp 7)), qq 9 (.call 105 [(.tmp 5), (.tmp 8)])]) (.seq (.seq (.reg [qm 10 1, qq 11 (.lenS (.tmp 10)), qq 12 (.mv (ki 0))]) (.blk 0 (.loop c129l1))) (.seq (.reg [qq 29 (.fad 1 (.tmp 2)), qq 30 (.ld none (.tmp 29)), qq 31 (.call 105 [(.tmp 5), (.tmp 30)])]) (.seq (.reg [qq 32 (.call 79 [(.tmp 5)]), qm 4 32]) .ret))))))
theorem k129 : conv Tryz.prog 33 (Tryz.f129.body.getD .skip) = c129 := by kernel_rfl
theorem in129 {a0 a1 : Value} {w : World} {R : Value → World → Prop} (h : G Tryz.prog Tryz.f129 33 [.c c129] R (frL 0 [a0, a1]) w) : Ret Tryz.prog 129 #[a0, a1] w R := G.enter (args := [a0, a1]) Tryz.func129 (c := Tryz.f129.body.getD .skip) (by kernel_rfl) (by kernel_rfl) (by simp) k129 h
theorem quoted_spec (d : Dl) (hd : byD d) (f : Str) (w : World) (hl : f.length ≤ 1000000000) : Pu Tryz.prog 129 #[(.agg #[U d.dl, U d.q, I d.e]), S f] w (S (quoM d f)) := by
  refine in129 ?_
  have hS := Sep.start w
  have hq : ((bQ d).toNat : Int) = d.q := byte_of ⟨hd.2.2.1, hd.2.2.2⟩
  have hql := quoB_len (bQ d)
  repeat' (first | ((with_reducible apply G.a); exact rfl) | refine G.reg fun K hK => ?_ | (with_reducible (refine hK _ _ ?_); clear hK K) | (with_reducible (refine hK _ ?_); clear hK K; intro wd hxd; have hS := Sep.xx hxd) | (have hk := hK; clear hk; simp (disch := first | exact dis | fail) only [push_cast, ↓reduceIte, Nat.reduceAdd, Nat.reduceLeDiff, Nat.reduceEqDiff, Nat.reduceLT, Int.reduceToNat, fct]) | ((first | refine zalc ?_ | ((with_reducible refine gBox ?_); refine zbox ?_)); intro gb wb hS) | (have hS := hS.newB 5; ((with_reducible (show CallK _ 105 _ _ _ _ _)); refine zco 105 (bwbI_spec (bQ d) hq hS (by repeat constructor) (by first | omega | (simp only [lens]; omega))) ?_; rintro vb wb ⟨rfl, hS⟩)) | refine G.drg mixed fun K hK => ?_ | (refine G.cn ?_ ?_ <;> intro hc <;> first | (with_reducible exact False.elim hc) | (exfalso; omega) | skip))
  refine G.loop (fun r w' => ∃ (k g2 gB : Nat), k ≤ f.length ∧ r 1 = S f ∧ r 2 = .pointer (some ⟨g2, 0, none⟩) ∧ r 5 = .pointer (some ⟨gB, 0, none⟩) ∧ r 11 = I f.length ∧ r 12 = I k ∧ Sep w w' [bldC gB 165 5 (bQ d :: (f.take k).flatMap (quoB (bQ d))), boxC g2 23 [U d.dl, U d.q, I d.e]]) (fun r _ => f.length - toN (r 12)) ?_ ?_
  · exact ⟨0, _, _, Nat.zero_le _, by exact sf, by exact sf, by exact sf, by exact sf, by exact sf, (Sep.sub hS (by repeat first | exact Sub.rfl' | exact Sub.n | (refine Sub.c (by repeat constructor) ?_) | refine Sub.skip ?_))⟩
  · clear hS
    rintro u wl ⟨k, g2, gB, hk, q1, q2, q5, q11, q12, hS⟩ ih
    have hm : toN (u 12) = k := by rw [q12]; simp [toN]
    have hqk := hql (f.take k)
    have htk : (f.take k).length ≤ k := by rw [List.length_take]; omega
    by_cases hkk : (k : Int) < f.length
    · have hsn := quoB_snoc0 (bQ d) f k hkk
      by_cases hcq : ((f.getD k 0).toNat : Int) = d.q
      · have hfc := u8_ofI hq hcq
        have hqb : quoB (bQ d) (f.getD k 0) = [bQ d] ++ [f.getD k 0] := by rw [hfc]; simp [quoB]
        rw [hqb] at hsn
        (have fct := (And.intro @q1 (And.intro @q2 (And.intro @q5 (And.intro @q11 @q12)))); repeat' (first | ((with_reducible apply G.a); exact rfl) | refine G.reg fun K hK => ?_ | (with_reducible (refine hK _ _ ?_); clear hK K) | (with_reducible (refine hK _ ?_); clear hK K; intro wd hxd; have hS := Sep.xx hxd) | (have hk := hK; clear hk; simp (disch := first | exact dis | fail) only [push_cast, ↓reduceIte, Nat.reduceAdd, Nat.reduceLeDiff, Nat.reduceEqDiff, Nat.reduceLT, Int.reduceToNat, fct]) | ((first | refine zalc ?_ | ((with_reducible refine gBox ?_); refine zbox ?_)); intro gb wb hS) | ((with_reducible (show CallK _ 105 _ _ _ _ _)); refine zco 105 (bwbI_spec (bQ d) hq hS (by repeat constructor) (by first | omega | (simp only [lens]; omega))) ?_; rintro vb wb ⟨rfl, hS⟩) | ((with_reducible (show CallK _ 105 _ _ _ _ _)); refine zco 105 (bwbI_spec (f.getD k 0) rfl hS (by repeat constructor) (by first | omega | (simp only [lens]; omega))) ?_; rintro vb wb ⟨rfl, hS⟩) | refine G.drg mixed fun K hK => ?_ | (refine G.cn ?_ ?_ <;> intro hc <;> first | (with_reducible exact False.elim hc) | (exfalso; omega) | skip))) <;> (try clear fct)
        all_goals
          rw [List.cons_append, List.cons_append, List.append_assoc, ← hsn] at hS
          have fct := (And.intro @q1 (And.intro @q2 (And.intro @q5 (And.intro @q11 @q12)))); refine ih _ _ ⟨k + 1, g2, gB, by omega, by exact sf, by exact sf, by exact sf, by exact sf, by exact sf, (Sep.sub hS (by repeat first | exact Sub.rfl' | exact Sub.n | (refine Sub.c (by repeat constructor) ?_) | refine Sub.skip ?_))⟩ ?_
          rw [hm]; simp only [push_cast, ↓reduceIte, Nat.reduceAdd, Nat.reduceLeDiff, Nat.reduceEqDiff, Nat.reduceLT, Int.reduceToNat, toN_i, q1, q2, q5, q11, q12]; omega
      · have hfc : ¬ f.getD k 0 = bQ d := fun e => hcq (by rw [e]; exact hq)
        have hqb : quoB (bQ d) (f.getD k 0) = [f.getD k 0] := by simp only [quoB, if_neg hfc]
        rw [hqb] at hsn
        (have fct := (And.intro @q1 (And.intro @q2 (And.intro @q5 (And.intro @q11 @q12)))); repeat' (first | ((with_reducible apply G.a); exact rfl) | refine G.reg fun K hK => ?_ | (with_reducible (refine hK _ _ ?_); clear hK K) | (with_reducible (refine hK _ ?_); clear hK K; intro wd hxd; have hS := Sep.xx hxd) | (have hk := hK; clear hk; simp (disch := first | exact dis | fail) only [push_cast, ↓reduceIte, Nat.reduceAdd, Nat.reduceLeDiff, Nat.reduceEqDiff, Nat.reduceLT, Int.reduceToNat, fct]) | ((first | refine zalc ?_ | ((with_reducible refine gBox ?_); refine zbox ?_)); intro gb wb hS) | ((with_reducible (show CallK _ 105 _ _ _ _ _)); refine zco 105 (bwbI_spec (f.getD k 0) rfl hS (by repeat constructor) (by first | omega | (simp only [lens]; omega))) ?_; rintro vb wb ⟨rfl, hS⟩) | refine G.drg mixed fun K hK => ?_ | (refine G.cn ?_ ?_ <;> intro hc <;> first | (with_reducible exact False.elim hc) | (exfalso; omega) | skip))) <;> (try clear fct)
        all_goals
          rw [List.cons_append, ← hsn] at hS
          have fct := (And.intro @q1 (And.intro @q2 (And.intro @q5 (And.intro @q11 @q12)))); refine ih _ _ ⟨k + 1, g2, gB, by omega, by exact sf, by exact sf, by exact sf, by exact sf, by exact sf, (Sep.sub hS (by repeat first | exact Sub.rfl' | exact Sub.n | (refine Sub.c (by repeat constructor) ?_) | refine Sub.skip ?_))⟩ ?_
          rw [hm]; simp only [push_cast, ↓reduceIte, Nat.reduceAdd, Nat.reduceLeDiff, Nat.reduceEqDiff, Nat.reduceLT, Int.reduceToNat, toN_i, q1, q2, q5, q11, q12]; omega
    · have hta : f.take k = f := List.take_of_length_le (by omega)
      rw [hta] at hS hqk
      (have fct := (And.intro @q1 (And.intro @q2 (And.intro @q5 (And.intro @q11 @q12)))); repeat' (first | ((with_reducible apply G.a); exact rfl) | refine G.reg fun K hK => ?_ | (with_reducible (refine hK _ _ ?_); clear hK K) | (with_reducible (refine hK _ ?_); clear hK K; intro wd hxd; have hS := Sep.xx hxd) | (have hk := hK; clear hk; simp (disch := first | exact dis | fail) only [push_cast, ↓reduceIte, Nat.reduceAdd, Nat.reduceLeDiff, Nat.reduceEqDiff, Nat.reduceLT, Int.reduceToNat, fct]) | ((first | refine zalc ?_ | ((with_reducible refine gBox ?_); refine zbox ?_)); intro gb wb hS) | ((with_reducible (show CallK _ 105 _ _ _ _ _)); refine zco 105 (bwbI_spec (bQ d) hq hS (by repeat constructor) (by first | omega | (simp only [lens]; omega))) ?_; rintro vb wb ⟨rfl, hS⟩) | ((with_reducible (show CallK _ 79 _ _ _ _ _)); refine zco 79 (bst_spec hS (by repeat constructor)) ?_; rintro vb wb ⟨rfl, hS⟩) | refine G.drg mixed fun K hK => ?_ | (refine G.cn ?_ ?_ <;> intro hc <;> first | (with_reducible exact False.elim hc) | (exfalso; omega) | skip))) <;> (try clear fct)
      all_goals
        (have fct := (And.intro @q1 (And.intro @q2 (And.intro @q5 (And.intro @q11 @q12)))); (first | refine G.r1 ?_ | refine G.r2 ?_ | refine G.r3 ?_ | refine G.r0 ?_ | refine G.d0 ?_); (try simp (disch := first | exact dis | fail) only [push_cast, ↓reduceIte, Nat.reduceAdd, Nat.reduceLeDiff, Nat.reduceEqDiff, Nat.reduceLT, Int.reduceToNat, fct]); (try clear fct))
        exact ⟨rfl, Sep.xt (by assumption)⟩
def c106 : MC := (.seq (.reg [qq 4 (.raw (.box 23 (.tmp 0)) 0), qq 8 (.mv (.const (S [])))]) (.seq (.seq (.reg [qq 9 (.ld (.some 3) (.tmp 4)), qm 10 1, qm 11 2, qm 12 3, qq 13 (.call 128 [(.tmp 9), (.tmp 10), (.tmp 11), (.tmp 12)])]) (.cond (.tmp 13) (.seq (.reg [qq 14 (.ld (.some 3) (.tmp 4)), qm 15 1, qq 16 (.call 129 [(.tmp 14), (.tmp 15)]), qm 8 16]) .ret) .skip)) (.seq (.reg [qm 17 1, qm 8 17]) .ret)))
theorem k106 : conv Tryz.prog 18 (Tryz.f106.body.getD .skip) = c106 := by kernel_rfl
theorem in106 {a0 a1 a2 a3 : Value} {w : World} {R : Value → World → Prop} (h : G Tryz.prog Tryz.f106 18 [.c c106] R (frL 0 [a0, a1, a2, a3]) w) : Ret Tryz.prog 106 #[a0, a1, a2, a3] w R := G.enter (args := [a0, a1, a2, a3]) Tryz.func106 (c := Tryz.f106.body.getD .skip) (by kernel_rfl) (by kernel_rfl) (by simp) k106 h
theorem written_spec (d : Dl) (hd : byD d) (f : Str) (a b : Bool) (w : World) (hl : f.length ≤ 1000000000) : Pu Tryz.prog 106 #[(.agg #[U d.dl, U d.q, I d.e]), S f, .bool a, .bool b] w (S (wrM d f a b)) := by
  refine in106 ?_
  have hS := Sep.start w
  unfold wrM
  by_cases h : 0 < whyM d f a b
  · rw [if_pos h]
    repeat' (first | ((with_reducible apply G.a); exact rfl) | refine G.reg fun K hK => ?_ | (with_reducible (refine hK _ _ ?_); clear hK K) | (have hk := hK; clear hk; simp (disch := first | exact dis | fail) only [push_cast, ↓reduceIte, Nat.reduceAdd, Nat.reduceLeDiff, Nat.reduceEqDiff, Nat.reduceLT, Int.reduceToNat, fct]) | (((with_reducible refine gBox ?_); refine zbox ?_); intro gb wb hS) | (refine zcp 128 (need_spec d hd f a b _ hl) ?_; intro wb hS) | (refine zcp 129 (quoted_spec d hd f _ hl) ?_; intro wb hS) | (refine G.cn ?_ ?_ <;> intro hc <;> first | (with_reducible exact False.elim hc) | (exfalso; omega) | skip))
    all_goals
      (first | refine G.r1 ?_ | refine G.r2 ?_ | refine G.r3 ?_ | refine G.r0 ?_ | refine G.d0 ?_); (try simp (disch := first | exact dis | fail) only [push_cast, ↓reduceIte, Nat.reduceAdd, Nat.reduceLeDiff, Nat.reduceEqDiff, Nat.reduceLT, Int.reduceToNat, fct])
      exact Sep.xt (by assumption)
  · rw [if_neg h]
    repeat' (first | ((with_reducible apply G.a); exact rfl) | refine G.reg fun K hK => ?_ | (with_reducible (refine hK _ _ ?_); clear hK K) | (have hk := hK; clear hk; simp (disch := first | exact dis | fail) only [push_cast, ↓reduceIte, Nat.reduceAdd, Nat.reduceLeDiff, Nat.reduceEqDiff, Nat.reduceLT, Int.reduceToNat, fct]) | (((with_reducible refine gBox ?_); refine zbox ?_); intro gb wb hS) | (refine zcp 128 (need_spec d hd f a b _ hl) ?_; intro wb hS) | (refine zcp 129 (quoted_spec d hd f _ hl) ?_; intro wb hS) | (refine G.cn ?_ ?_ <;> intro hc <;> first | (with_reducible exact False.elim hc) | (exfalso; omega) | skip))
    all_goals
      (first | refine G.r1 ?_ | refine G.r2 ?_ | refine G.r3 ?_ | refine G.r0 ?_ | refine G.d0 ?_); (try simp (disch := first | exact dis | fail) only [push_cast, ↓reduceIte, Nat.reduceAdd, Nat.reduceLeDiff, Nat.reduceEqDiff, Nat.reduceLT, Int.reduceToNat, fct])
      exact Sep.xt (by assumption)
def c107 : MC := (.seq (.reg [qq 1 (.raw (.box 23 (.tmp 0)) 0), qq 2 (.mv (.const (S [])))]) (.seq (.blk 0 (.seq (.reg [qq 4 (.ld (.some 3) (.tmp 1)), qq 5 (.call 29 [(.tmp 4)]), qq 6 (.bin .neq (.tmp 5) (ki 0)), qm 3 6]) (.cond (.tmp 3) (.seq (.reg [qq 2 (.mv (.const (S [])))]) .ret) (.seq (.reg [qq 8 (.fad 2 (.tmp 1)), qq 9 (.ld none (.tmp 8)), qq 10 (.bin .eql (.tmp 9) (ki 2)), qm 7 10]) (.cond (.tmp 7) (.seq (.reg [qq 2 (.mv (.const (S [13, 10])))]) .ret) .skip))))) (.seq (.reg [qq 2 (.mv (.const (S [10])))]) .ret)))
theorem k107 : conv Tryz.prog 11 (Tryz.f107.body.getD .skip) = c107 := by kernel_rfl
theorem in107 {a0 : Value} {w : World} {R : Value → World → Prop} (h : G Tryz.prog Tryz.f107 11 [.c c107] R (frL 0 [a0]) w) : Ret Tryz.prog 107 #[a0] w R := G.enter (args := [a0]) Tryz.func107 (c := Tryz.f107.body.getD .skip) (by kernel_rfl) (by kernel_rfl) (by simp) k107 h
theorem dend_spec (d : Dl) (hr : rightD d = true) (w : World) : Pu Tryz.prog 107 #[(.agg #[U d.dl, U d.q, I d.e])] w (S (endM d)) := by
  refine in107 ?_
  have hS := Sep.start w
  unfold endM
  by_cases h : d.e = 2
  · rw [if_pos h]
    (have fct := @hr; repeat' (first | ((with_reducible apply G.a); exact rfl) | refine G.reg fun K hK => ?_ | (with_reducible (refine hK _ _ ?_); clear hK K) | (have hk := hK; clear hk; simp (disch := first | exact dis | fail) only [push_cast, ↓reduceIte, Nat.reduceAdd, Nat.reduceLeDiff, Nat.reduceEqDiff, Nat.reduceLT, Int.reduceToNat, fct]) | (((with_reducible refine gBox ?_); refine zbox ?_); intro gb wb hS) | (refine zcp 29 (checkD_spec d _) ?_; intro wb hS) | (refine G.cn ?_ ?_ <;> intro hc <;> first | (with_reducible exact False.elim hc) | (exfalso; omega) | skip))) <;> (try clear fct)
    all_goals
      (first | refine G.r1 ?_ | refine G.r2 ?_ | refine G.r3 ?_ | refine G.r0 ?_ | refine G.d0 ?_); (try simp (disch := first | exact dis | fail) only [push_cast, ↓reduceIte, Nat.reduceAdd, Nat.reduceLeDiff, Nat.reduceEqDiff, Nat.reduceLT, Int.reduceToNat, fct])
      exact Sep.xt (by assumption)
  · rw [if_neg h]
    (have fct := @hr; repeat' (first | ((with_reducible apply G.a); exact rfl) | refine G.reg fun K hK => ?_ | (with_reducible (refine hK _ _ ?_); clear hK K) | (have hk := hK; clear hk; simp (disch := first | exact dis | fail) only [push_cast, ↓reduceIte, Nat.reduceAdd, Nat.reduceLeDiff, Nat.reduceEqDiff, Nat.reduceLT, Int.reduceToNat, fct]) | (((with_reducible refine gBox ?_); refine zbox ?_); intro gb wb hS) | (refine zcp 29 (checkD_spec d _) ?_; intro wb hS) | (refine G.cn ?_ ?_ <;> intro hc <;> first | (with_reducible exact False.elim hc) | (exfalso; omega) | skip))) <;> (try clear fct)
    all_goals
      (first | refine G.r1 ?_ | refine G.r2 ?_ | refine G.r3 ?_ | refine G.r0 ?_ | refine G.d0 ?_); (try simp (disch := first | exact dis | fail) only [push_cast, ↓reduceIte, Nat.reduceAdd, Nat.reduceLeDiff, Nat.reduceEqDiff, Nat.reduceLT, Int.reduceToNat, fct])
      exact Sep.xt (by assumption)
end
end Go.Proofs.YtdikpaochhacmaaGreatDoor
