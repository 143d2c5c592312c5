/- Texts of the proof, joined. -/
import Derived.Test.YtigifbjdmdcboaazL27
import Derived.Test.YtigifbjdmdcboaazY10
import Derived.Test.YtigifbjdmdcboaazS10
namespace Go.Proofs.Ytigifbjdmdcboaa
set_option linter.unusedSimpArgs false
set_option linter.unusedVariables false
attribute [local irreducible] SemK UnitK StK AlcK BslK CallK CallV Instr.box Builtin.append_ Instr.makeSlice Instr.makeMap Instr.lookup Instr.mapUpdate Instr.sliceAt convert
open Go.RowKit
section
variable {s a e : Str}
def c75 : MC := (.seq (.reg [qq 4 (.mv (kb false))]) (.seq (.reg [qm 5 0, qq 6 (.lenS (.tmp 5)), qm 7 1, qq 8 (.lenS (.tmp 7)), qq 9 (.bin .geq (.tmp 6) (.tmp 8)), qm 10 9, qmt 10 11 0, qmt 10 12 0, qt 10 13 (.lenS (.tmp 12)), qmt 10 14 1, qt 10 15 (.lenS (.tmp 14)), qt 10 16 (.bin .sub (.tmp 13) (.tmp 15)), qt 10 17 (.slS (.tmp 11) (.some (.tmp 16)) none), qmt 10 18 1, qt 10 19 (.bin .eql (.tmp 17) (.tmp 18)), qq 20 (.pick (.tmp 10) (.tmp 19) (kb false)), qm 4 20]) .ret))
theorem k75 : conv Try.prog 21 (Try.f75.body.getD .skip) = c75 := by kernel_rfl
theorem in75 {a0 a1 : Value} {w : World} {R : Value → World → Prop} (h : G Try.prog Try.f75 21 [.c c75] R (frL 0 [a0, a1]) w) : Ret Try.prog 75 #[a0, a1] w R := G.enter (args := [a0, a1]) Try.func75 (c := Try.f75.body.getD .skip) (by kernel_rfl) (by kernel_rfl) (by simp) k75 h
theorem hsuf_spec (w : World) (hl : s.length = a.length + e.length) (hb : s.length ≤ 1000000000000) (hd : s.drop a.length = e) : Pu Try.prog 75 #[S s, S e] w (.bool true) := by
  refine in75 ?_
  have hS := Sep.start w
  have hT : ((s.length : Int) - (e.length : Int)).toNat = a.length := by omega
  have hT2 : s.length - a.length = e.length := by omega
  have hd2 : (s.drop a.length).take e.length = e := by rw [hd, List.take_length]
  (have fct := (And.intro @hT (And.intro @hT2 (And.intro @hd @hd2))); repeat' (first | ((with_reducible apply G.a); exact rfl) | refine G.reg fun K hK => ?_ | (with_reducible (refine hK _ _ ?_); clear hK K) | (have hk := hK; clear hk; simp (disch := first | exact dis | fail) only [push_cast, ↓reduceIte, Nat.reduceAdd, Nat.reduceLeDiff, Nat.reduceEqDiff, Nat.reduceLT, Int.reduceToNat, fct]) | (refine brO_n ?_ ?_ <;> intro hb hc <;> first | (with_reducible exact False.elim hc) | (exfalso; omega) | (simp only [hb]; clear hb)))) <;> (try clear fct)
  all_goals
    (first | refine G.r1 ?_ | refine G.r2 ?_ | refine G.r3 ?_ | refine G.r0 ?_ | refine G.d0 ?_); (try simp (disch := first | exact dis | fail) only [push_cast, ↓reduceIte, Nat.reduceAdd, Nat.reduceLeDiff, Nat.reduceEqDiff, Nat.reduceLT, Int.reduceToNat, fct])
    exact Sep.xt (by assumption)
def c57 : MC := (.seq (.reg [qq 4 (.mv (.const (S [])))]) (.seq (.seq (.reg [qm 5 0, qm 6 1, qq 7 (.call 75 [(.tmp 5), (.tmp 6)])]) (.cond (.tmp 7) (.seq (.reg [qm 8 0, qm 9 0, qq 10 (.lenS (.tmp 9)), qm 11 1, qq 12 (.lenS (.tmp 11)), qq 13 (.bin .sub (.tmp 10) (.tmp 12)), qq 14 (.slS (.tmp 8) none (.some (.tmp 13))), qm 4 14]) .ret) .skip)) (.seq (.reg [qm 15 0, qm 4 15]) .ret)))
theorem k57 : conv Try.prog 16 (Try.f57.body.getD .skip) = c57 := by kernel_rfl
theorem in57 {a0 a1 : Value} {w : World} {R : Value → World → Prop} (h : G Try.prog Try.f57 16 [.c c57] R (frL 0 [a0, a1]) w) : Ret Try.prog 57 #[a0, a1] w R := G.enter (args := [a0, a1]) Try.func57 (c := Try.f57.body.getD .skip) (by kernel_rfl) (by kernel_rfl) (by simp) k57 h
theorem tsuf0_spec (w : World) (hl : s.length = a.length + e.length) (hb : s.length ≤ 1000000000000) (hd : s.drop a.length = e) (ha : s.take a.length = a) : Pu Try.prog 57 #[S s, S e] w (S a) := by
  refine in57 ?_
  have hS := Sep.start w
  have hT : ((s.length : Int) - (e.length : Int)).toNat = a.length := by omega
  (have fct := (And.intro @hT @ha); repeat' (first | ((with_reducible apply G.a); exact rfl) | refine G.reg fun K hK => ?_ | (with_reducible (refine hK _ _ ?_); clear hK K) | (have hk := hK; clear hk; simp (disch := first | exact dis | fail) only [push_cast, ↓reduceIte, Nat.reduceAdd, Nat.reduceLeDiff, Nat.reduceEqDiff, Nat.reduceLT, Int.reduceToNat, fct]) | (refine zcp 75 (hsuf_spec _ hl hb hd) ?_; intro wb hS) | (refine G.cn ?_ ?_ <;> intro hc <;> first | (with_reducible exact False.elim hc) | (exfalso; omega) | skip))) <;> (try clear fct)
  all_goals
    (first | refine G.r1 ?_ | refine G.r2 ?_ | refine G.r3 ?_ | refine G.r0 ?_ | refine G.d0 ?_); (try simp (disch := first | exact dis | fail) only [push_cast, ↓reduceIte, Nat.reduceAdd, Nat.reduceLeDiff, Nat.reduceEqDiff, Nat.reduceLT, Int.reduceToNat, fct])
    exact Sep.xt (by assumption)
def c35 : MC := (.seq (.reg [qq 4 (.mv (.const (S [])))]) (.seq (.reg [qm 5 0, qm 6 1, qq 7 (.call 57 [(.tmp 5), (.tmp 6)]), qm 4 7]) .ret))
theorem k35 : conv Try.prog 8 (Try.f35.body.getD .skip) = c35 := by kernel_rfl
theorem in35 {a0 a1 : Value} {w : World} {R : Value → World → Prop} (h : G Try.prog Try.f35 8 [.c c35] R (frL 0 [a0, a1]) w) : Ret Try.prog 35 #[a0, a1] w R := G.enter (args := [a0, a1]) Try.func35 (c := Try.f35.body.getD .skip) (by kernel_rfl) (by kernel_rfl) (by simp) k35 h
theorem tsuf_spec (w : World) (hl : s.length = a.length + e.length) (hb : s.length ≤ 1000000000000) (hd : s.drop a.length = e) (ha : s.take a.length = a) : Pu Try.prog 35 #[S s, S e] w (S a) := by
  refine in35 ?_
  have hS := Sep.start w
  repeat' (first | ((with_reducible apply G.a); exact rfl) | refine G.reg fun K hK => ?_ | (with_reducible (refine hK _ _ ?_); clear hK K) | (with_reducible (refine hK _ ?_); clear hK K; intro wd hxd; have hS := Sep.xx hxd) | ((first | have hk := hK | have hk := hK2); clear hk; simp (disch := first | exact dis | fail) only [push_cast, ↓reduceIte, Nat.reduceAdd, Nat.reduceLeDiff, Nat.reduceEqDiff, Nat.reduceLT, Int.reduceToNat, fct]) | (refine zalc ?_; intro gb wb hS) | ((with_reducible refine gSt ?_); refine zs2 ?_; intro wb hS) | (refine zcp 57 (tsuf0_spec _ hl hb hd ha) ?_; intro wb hS) | (refine G.drt mixed fun K hK wd hxd => ?_; have hS := Sep.xx hxd) | with_reducible refine OT_leaf ?_ | (with_reducible (refine hK2 _ ?_); clear hK2 K2; intro wd hxd; have hS := Sep.xx hxd) | with_reducible refine OT_br fun K2 hK2 => ?_ | (refine hK2 _ _ ?_ ?_ <;> clear hK2 K2) | refine G.drg mixed fun K hK => ?_ | (refine G.cn ?_ ?_ <;> intro hc <;> first | (with_reducible exact False.elim hc) | (exfalso; omega) | skip))
  all_goals
    (first | refine G.r1 ?_ | refine G.r2 ?_ | refine G.r3 ?_ | refine G.r0 ?_ | refine G.d0 ?_); (try simp (disch := first | exact dis | fail) only [push_cast, ↓reduceIte, Nat.reduceAdd, Nat.reduceLeDiff, Nat.reduceEqDiff, Nat.reduceLT, Int.reduceToNat, fct])
    exact Sep.xt (by assumption)
end
def setE (n : Nat) (k : Int) (i : Int) (r : List Str) : Int := if ¬ (0 ≤ i ∧ i < n) then 25 else if k ≠ 0 then 23 else mayR r
section
variable {d : Dl} {s : Str} {R : Rs} {SP : List (Nat × Nat)} {w : World} {g : Nat} {v sv rv : Value} {r : List Str}
def c15 : MC := (.seq (.reg [qq 6 (.mv (.const (.pointer none))), qq 7 (.mv (ki 0))]) (.seq (.seq (.reg [qm 13 0, qm 14 1, qq 15 (.call 33 [(.tmp 13), (.tmp 14)]), qq 16 (.un .not (.tmp 15))]) (.cond (.tmp 16) (.seq (.reg [qq 6 (.mv (.const (.pointer none))), qq 7 (.mv (ki 25))]) .ret) .skip)) (.seq (.seq (.reg [qm 17 0, qq 18 (.nck (.tmp 17)), qq 19 (.fad 4 (.tmp 18)), qq 20 (.fad 0 (.tmp 19)), qq 21 (.ld none (.tmp 20)), qq 22 (.bin .neq (.tmp 21) (ki 0))]) (.cond (.tmp 22) (.seq (.reg [qq 6 (.mv (.const (.pointer none))), qq 7 (.mv (ki 23))]) .ret) .skip)) (.seq (.reg [qm 24 0, qq 25 (.nck (.tmp 24)), qq 26 (.fad 0 (.tmp 25)), qq 27 (.ld (.some 3) (.tmp 26)), qm 28 2, qm 29 1, qq 30 (.bin .eql (.tmp 29) (ki 0)), qq 31 (.call 34 [(.tmp 27), (.tmp 28), (.tmp 30)]), qm 23 31, qq 32 (.ext 0 (.tmp 23)), qq 33 (.ext 1 (.tmp 23)), qm 8 32, qm 9 33]) (.seq (.seq (.reg [qm 34 9, qq 35 (.bin .neq (.tmp 34) (ki 0))]) (.cond (.tmp 35) (.seq (.reg [qm 36 9, qq 6 (.mv (.const (.pointer none))), qm 7 36]) .ret) .skip)) (.seq (.reg [qm 37 8, qm 38 0, qq 39 (.nck (.tmp 38)), qq 40 (.fad 0 (.tmp 39)), qq 41 (.ld (.some 3) (.tmp 40)), qq 42 (.call 36 [(.tmp 41)]), qq 43 (.call 35 [(.tmp 37), (.tmp 42)]), qm 8 43]) (.seq (.reg [qm 44 0, qq 45 (.nck (.tmp 44)), qq 46 (.fad 7 (.tmp 45)), qq 47 (.ld none (.tmp 46)), qm 48 1, qq 49 (.adr 2 (.tmp 47) (.tmp 48)), qq 50 (.ld (.some 2) (.tmp 49)), qq 10 (.alc 83 [(.int .i64 0), (.int .i64 0)]), qn (.st 2 (.tmp 10) (.tmp 50))]) (.seq (.drg [qm 52 0, qq 53 (.nck (.tmp 52)), qq 54 (.fad 0 (.tmp 53)), qq 55 (.ld (.some 3) (.tmp 54)), qm 56 0, qq 57 (.nck (.tmp 56)), qq 58 (.fad 3 (.tmp 57)), qq 59 (.ld none (.tmp 58)), qq 60 (.fad 0 (.tmp 10)), qq 61 (.ld none (.tmp 60)), qq 62 (.slS (.tmp 59) none (.some (.tmp 61))), qm 63 8, qq 64 (.bin .add (.tmp 62) (.tmp 63)), qm 65 0, qq 66 (.nck (.tmp 65)), qq 67 (.fad 3 (.tmp 66)), qq 68 (.ld none (.tmp 67)), qq 69 (.fad 1 (.tmp 10)), qq 70 (.ld none (.tmp 69)), qq 71 (.slS (.tmp 68) (.some (.tmp 70)) none), qq 72 (.bin .add (.tmp 64) (.tmp 71)), qq 73 (.call 12 [(.tmp 55), (.tmp 72)]), qm 51 73, qq 74 (.ext 0 (.tmp 51)), qq 75 (.ext 1 (.tmp 51)), qq 12 (.alc 34 [(.int .i64 0), (.int .i64 0)]), qm 11 74, qn (.st 2 (.tmp 12) (.tmp 75))] (.some (.br [qm 52 0, qq 53 (.nck (.tmp 52)), qq 54 (.fad 0 (.tmp 53)), qq 55 (.ld (.some 3) (.tmp 54)), qm 56 0, qq 57 (.nck (.tmp 56)), qq 58 (.fad 3 (.tmp 57)), qq 59 (.ld none (.tmp 58)), qq 60 (.fad 0 (.tmp 10)), qq 61 (.ld none (.tmp 60)), qq 62 (.slS (.tmp 59) none (.some (.tmp 61))), qm 63 8, qq 64 (.bin .add (.tmp 62) (.tmp 63)), qm 65 0, qq 66 (.nck (.tmp 65)), qq 67 (.fad 3 (.tmp 66)), qq 68 (.ld none (.tmp 67)), qq 69 (.fad 1 (.tmp 10)), qq 70 (.ld none (.tmp 69)), qq 71 (.slS (.tmp 68) (.some (.tmp 70)) none), qq 72 (.bin .add (.tmp 64) (.tmp 71))] (.br [] (.leaf [qq 73 (.call 12 [(.tmp 55), (.tmp 72)]), qm 51 73, qq 74 (.ext 0 (.tmp 51)), qq 75 (.ext 1 (.tmp 51)), qq 12 (.alc 34 [(.int .i64 0), (.int .i64 0)]), qm 11 74, qn (.st 2 (.tmp 12) (.tmp 75))]) (.leaf [qq 12 (.alc 34 [(.int .i64 0), (.int .i64 0)]), qq 73 (.call 12 [(.tmp 55), (.tmp 72)]), qm 51 73, qq 74 (.ext 0 (.tmp 51)), qq 75 (.ext 1 (.tmp 51)), qm 11 74, qn (.st 2 (.tmp 12) (.tmp 75))])) (.leaf [qq 12 (.alc 34 [(.int .i64 0), (.int .i64 0)]), qq 73 (.call 12 [(.tmp 55), (.tmp 72)]), qm 51 73, qq 74 (.ext 0 (.tmp 51)), qq 75 (.ext 1 (.tmp 51)), qm 11 74, qn (.st 2 (.tmp 12) (.tmp 75))])))) (.seq (.reg [qm 76 11, qm 6 76, qq 7 (.mv (ki 0))]) .ret)))))))))
theorem k15 : conv Try.prog 77 (Try.f15.body.getD .skip) = c15 := by kernel_rfl
theorem in15 {a0 a1 a2 : Value} {w : World} {R : Value → World → Prop} (h : G Try.prog Try.f15 77 [.c c15] R (frL 0 [a0, a1, a2]) w) : Ret Try.prog 15 #[a0, a1, a2] w R := G.enter (args := [a0, a1, a2]) Try.func15 (c := Try.f15.body.getD .skip) (by kernel_rfl) (by kernel_rfl) (by simp) k15 h
set_option maxHeartbeats 1000000 in
theorem iset_spec1 (hd : byD d) (hrt : rightD d = true) (hB : Blk w g 75 ([U d.dl, U d.q, I d.e, S s, I R.k, I R.a, v, sv] : List Value).toArray) (hP : Rd w eP sv SP) (hr : Rd w eS rv r) (hN : ∀ f ∈ r, f.length ≤ 1000000) (hl : r.length ≤ 10000) (i : Nat) (hE : setE SP.length R.k i r = 0) (hs : s.length ≤ 150000) (hsp : Spans SP (endR27 R s.length) s.length) (hL : ((lineF d r.length (decide (i = 0)) 0 r)).length ≤ 500000) {R2 : Rs} {SP2 : List (Nat × Nat)} (hR : parM d wideL (s.take (SP.getD i default).1 ++ (lineF d r.length (decide (i = 0)) 0 r) ++ s.drop (SP.getD i default).2) = R2) (hSP : spM d (s.take (SP.getD i default).1 ++ (lineF d r.length (decide (i = 0)) 0 r) ++ s.drop (SP.getD i default).2) = SP2) :
    Ret Try.prog 15 #[(.pointer (some ⟨g, 0, none⟩)), I i, rv] w fun res w' => ∃ g2 v2 vs2 sv2, res = .tuple #[.pointer (some ⟨g2, 0, none⟩), I 0] ∧ vs2.length = R2.rs.length ∧
      Sep w w' [boxC g2 75 [U d.dl, U d.q, I d.e, S (s.take (SP.getD i default).1 ++ (lineF d r.length (decide (i = 0)) 0 r) ++ s.drop (SP.getD i default).2), I R2.k, I R2.a, v2, sv2], accC sv2 83 eP SP2, accC v2 38 eV vs2, frzC eS vs2 (R2.rs.map Prod.fst)] := by
  refine in15 ?_
  have hS := Sep.start w
  unfold setE at hE
  split at hE
  · simp at hE
  rename_i hi
  rw [Classical.not_not] at hi
  split at hE
  · simp at hE
  rename_i hk
  rw [Ne, Classical.not_not] at hk
  have hlv : lineV d r (decide (i = 0)) = .tuple #[S (lineM d r (decide (i = 0))), I 0] := by unfold lineV; rw [if_neg (by rw [hrt]; decide), if_pos hE]
  have hib : ((i : Int) == 0) = decide (i = 0) := by rw [Bool.eq_iff_iff]; simp
  have hib2 : decide ((i : Int) = 0) = decide (i = 0) := by rw [Bool.eq_iff_iff]; simp
  have hih : decide (0 ≤ (i : Int) ∧ (i : Int) < SP.length) = true := decide_eq_true hi
  have hin : i < SP.length := by omega
  have hel : (endM d).length ≤ 2 := by unfold endM; split <;> simp
  have hp := fun w => inew_spec1 d (s.take (SP.getD i default).1 ++ (lineF d r.length (decide (i = 0)) 0 r) ++ s.drop (SP.getD i default).2) w (by simp only [List.length_append, List.length_take, List.length_drop]; omega) hrt hR hSP
  have hq := fun w => tsuf_spec (s := lineM d r (decide (i = 0))) (a := (lineF d r.length (decide (i = 0)) 0 r)) (e := endM d) w (by unfold lineM; rw [List.length_append]) (by unfold lineM; rw [List.length_append]; omega) (by unfold lineM; simp) (by unfold lineM; simp)
  have hb1 : (SP.getD i default).1 ≤ (SP.getD i default).2 ∧ (SP.getD i default).2 ≤ s.length := ⟨(hsp.one i hin).1, Nat.le_trans (hsp.one i hin).2 hsp.hn⟩
  obtain ⟨hb1, hb2⟩ := hb1
  have hbd := hP.bd
  generalize hLL : (lineF d r.length (decide (i = 0)) 0 r) = L at *
  (have fct := (And.intro @hk (And.intro @hlv (And.intro @hib (And.intro @hib2 @hih)))); repeat' (first | ((with_reducible apply G.a); exact rfl) | refine G.reg fun K hK => ?_ | (with_reducible (refine hK _ _ ?_); clear hK K) | (with_reducible (refine hK _ ?_); clear hK K; intro wd hxd; have hS := Sep.xx hxd) | ((first | have hk := hK | have hk := hK2); clear hk; simp (disch := first | exact dis | fail) only [push_cast, ↓reduceIte, Nat.reduceAdd, Nat.reduceLeDiff, Nat.reduceEqDiff, Nat.reduceLT, Int.reduceToNat, fct]) | (refine zalc ?_; intro gb wb hS) | ((with_reducible refine gSt ?_); refine zs2 ?_; intro wb hS) | (with_reducible refine And.intro (a := OT _ _ _ _ _) (b := OT _ _ _ _ _) ?_ ?_) | (refine zcp 33 (ihas_spec hB hP i) ?_; intro wb hS) | (refine zcp 34 (line_spec d hd (decide (i = 0)) _ (hr.ext (Sep.xt (by assumption))) hN hl) ?_; intro wb hS) | (refine zcp 36 (dend_spec d hrt _) ?_; intro wb hS) | (refine zcp 35 (hq _) ?_; intro wb hS) | (refine zco 12 (hp _) ?_; rintro vb wb ⟨g2, v2, vs2, sv2, rfl, hvl, hS2⟩; have hS := hS2.ap; simp only [apps] at hS) | (refine G.drt mixed fun K hK wd hxd => ?_; have hS := Sep.xx hxd) | with_reducible refine OT_leaf ?_ | (with_reducible (refine hK2 _ ?_); clear hK2 K2; intro wd hxd; have hS := Sep.xx hxd) | with_reducible refine OT_br fun K2 hK2 => ?_ | (refine hK2 _ _ ?_ ?_ <;> clear hK2 K2) | refine G.drg mixed fun K hK => ?_ | (refine G.cn ?_ ?_ <;> intro hc <;> first | (with_reducible exact False.elim hc) | (exfalso; omega) | skip))) <;> (try clear fct)
  all_goals
    (first | refine G.r1 ?_ | refine G.r2 ?_ | refine G.r3 ?_ | refine G.r0 ?_ | refine G.d0 ?_); (try simp (disch := first | exact dis | fail) only [push_cast, ↓reduceIte, Nat.reduceAdd, Nat.reduceLeDiff, Nat.reduceEqDiff, Nat.reduceLT, Int.reduceToNat, fct])
    exact ⟨_, _, _, _, rfl, hvl, (Sep.sub hS (by repeat first | exact Sub.rfl' | exact Sub.n | (refine Sub.c (by repeat constructor) ?_) | refine Sub.skip ?_))⟩
end
end Go.Proofs.Ytigifbjdmdcboaa
