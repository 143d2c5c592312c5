/- Texts of the proof, joined. -/
import Derived.Test.YtjajihaeoolefaaDooryZ25
import Derived.Test.YtjajihaeoolefaaDooryW17
import Derived.Test.YtjajihaeoolefaaDooryW20
import Derived.Test.YtjajihaeoolefaaDooryFw
namespace Go.Proofs.YtjajihaeoolefaaDoor
set_option linter.unusedSimpArgs false
set_option linter.unusedVariables false
attribute [local irreducible] SemK UnitK StK AlcK BslK CallK CallV Instr.box Builtin.append_ Instr.makeSlice Instr.makeMap Instr.lookup Instr.mapUpdate Instr.sliceAt convert
open Go.RowKit
def few23M (l : List Col) (rows : List (List Val)) : Bool := fewC l && (smallM rows && rows.all (fun r => r.all rightM))
theorem few23_len {l : List Col} {rows : List (List Val)} (h : few23M l rows = true) : (l.length ≤ 12 ∧ ∀ c ∈ l, c.name.length ≤ 40) ∧ rows.length ≤ 12 ∧ (∀ r ∈ rows, r.length ≤ 12 ∧ ∀ v ∈ r, v.s.length ≤ 40) := by
  unfold few23M at h
  rw [Bool.and_eq_true, Bool.and_eq_true] at h
  refine ⟨fewC_len h.1, ?_⟩
  have h2 := h.2.1
  unfold smallM at h2
  rw [Bool.and_eq_true, decide_eq_true_eq, List.all_eq_true] at h2
  exact ⟨h2.1, fun r hr => shortR_len (h2.2 r hr)⟩
theorem all_dropS {α : Type} [Inhabited α] (p : α → Bool) (l : List α) (k : Nat) (h : (k : Int) < l.length) : (l.drop k).all p = (p (l.getD k default) && (l.drop (k + 1)).all p) := by
  rw [dropD _ _ h, List.all_cons]
def c7l1 : MC := (.seq (.reg [qq 27 (.bin .lss (.tmp 26) (.tmp 25))]) (.seq (.cond (.tmp 27) .skip (.exit 2)) (.seq (.blk 3 (.seq (.reg [qq 28 (.adr 4 (.tmp 24) (.tmp 26)), qq 29 (.ld (.some 4) (.tmp 28)), qq 6 (.alc 69 [(.int .i64 0), (S []), (.int .i64 0), (.bool false)]), qn (.st 4 (.tmp 6) (.tmp 29))]) (.seq (.reg [qq 30 (.ld (.some 4) (.tmp 6)), qq 31 (.call 20 [(.tmp 30)]), qq 32 (.call 19 [(.tmp 31)]), qq 33 (.un .not (.tmp 32))]) (.cond (.tmp 33) (.seq (.reg [qq 2 (.mv (kb false))]) .ret) .skip)))) (.reg [qq 34 (.bin .add (.tmp 26) (ki 1)), qm 26 34]))))
def c7l2 : MC := (.seq (.reg [qq 21 (.bin .lss (.tmp 20) (.tmp 19))]) (.seq (.cond (.tmp 21) .skip (.exit 0)) (.seq (.blk 1 (.seq (.reg [qq 22 (.adr 1 (.tmp 18) (.tmp 20)), qq 23 (.ld none (.tmp 22)), qm 4 23]) (.seq (.reg [qm 24 4, qq 25 (.len (.tmp 24)), qq 26 (.mv (ki 0))]) (.blk 2 (.loop c7l1))))) (.reg [qq 35 (.bin .add (.tmp 20) (ki 1)), qm 20 35]))))
def c7 : MC := (.seq (.reg [qq 1 (.raw (.box 25 (.tmp 0)) 0), qq 2 (.mv (kb false))]) (.seq (.seq (.reg [qq 7 (.fad 0 (.tmp 1)), qq 8 (.ld none (.tmp 7)), qq 9 (.call 17 [(.tmp 8)]), qq 10 (.un .not (.tmp 9)), qm 11 10, qf 11 12 (.fad 1 (.tmp 1)), qf 11 13 (.ld none (.tmp 12)), qf 11 14 (.call 18 [(.tmp 13)]), qf 11 15 (.un .not (.tmp 14)), qq 16 (.pick (.tmp 11) (kb true) (.tmp 15))]) (.cond (.tmp 16) (.seq (.reg [qq 2 (.mv (kb false))]) .ret) .skip)) (.seq (.seq (.reg [qq 17 (.fad 1 (.tmp 1)), qq 18 (.ld none (.tmp 17)), qq 19 (.len (.tmp 18)), qq 20 (.mv (ki 0))]) (.blk 0 (.loop c7l2))) (.seq (.reg [qq 2 (.mv (kb true))]) .ret))))
theorem k7 : conv Tryd.prog 36 (Tryd.f7.body.getD .skip) = c7 := by kernel_rfl
theorem in7 {a0 : Value} {w : World} {R : Value → World → Prop} (h : G Tryd.prog Tryd.f7 36 [.c c7] R (frL 0 [a0]) w) : Ret Tryd.prog 7 #[a0] w R := G.enter (args := [a0]) Tryd.func7 (c := Tryd.f7.body.getD .skip) (by kernel_rfl) (by kernel_rfl) (by simp) k7 h
set_option maxHeartbeats 1000000 in
theorem few23_spec {vl vr : Value} {l : List Col} {rows : List (List Val)} {w : World} (h0 : Rd w eC vl l) (h2 : RdT w eVal vr rows) : Pu Tryd.prog 7 #[.agg #[vl, vr]] w (.bool (few23M l rows)) := by
  refine in7 ?_
  have hS := Sep.start w
  have hsm := fun (w2 : World) (hx : Ext w w2) => small20_spec (w := w2) (h2.ext hx)
  have hfw := fun (w2 : World) (hx : Ext w w2) => few20_spec (w := w2) (h0.ext hx)
  obtain ⟨vs, g1, l1, i1⟩ := h2
  have hbd2 := g1.bd
  unfold few23M
  cases hf : fewC l
  · (have fct := @hf; repeat' (first | ((with_reducible apply G.a); exact rfl) | refine G.reg fun K hK => ?_ | (with_reducible (refine hK _ _ ?_); clear hK K) | (have hk := hK; clear hk; simp (disch := first | exact dis | fail) only [push_cast, ↓reduceIte, Nat.reduceAdd, Nat.reduceLeDiff, Nat.reduceEqDiff, Nat.reduceLT, Int.reduceToNat, fct]) | (refine brO_n ?_ ?_ <;> intro hb hc <;> first | (with_reducible exact False.elim hc) | (exfalso; omega) | (simp only [hb]; clear hb)) | ((first | refine zalc ?_ | ((with_reducible refine gBox ?_); refine zbox ?_)); intro gb wb hS) | ((with_reducible refine gSt ?_); refine zs2 ?_; intro wb hS) | (refine zcp 17 (hfw _ hS.x) ?_; intro wb hS) | (refine zcp 18 (hsm _ hS.x) ?_; intro wb hS) | (refine G.cn ?_ ?_ <;> intro hc <;> first | (with_reducible exact False.elim hc) | (exfalso; omega) | skip))) <;> (try clear fct)
    all_goals
      (first | refine G.r1 ?_ | refine G.r2 ?_ | refine G.r3 ?_ | refine G.r0 ?_ | refine G.d0 ?_); (try simp (disch := first | exact dis | fail) only [push_cast, ↓reduceIte, Nat.reduceAdd, Nat.reduceLeDiff, Nat.reduceEqDiff, Nat.reduceLT, Int.reduceToNat, fct])
      (first | exact Sep.xt (by assumption) | exact ⟨rfl, Sep.xt (by assumption)⟩)
  have hsl : smallM rows = true → ∀ i, i < rows.length → ∀ v ∈ rows.getD i [], v.s.length ≤ 40 := fun h i hi => by
    unfold smallM at h
    rw [Bool.and_eq_true, List.all_eq_true] at h
    exact (shortR_len (h.2 _ (getD_mem rows i (by omega)))).2
  cases hm : smallM rows
  · (have fct := (And.intro @hf @hm); repeat' (first | ((with_reducible apply G.a); exact rfl) | refine G.reg fun K hK => ?_ | (with_reducible (refine hK _ _ ?_); clear hK K) | (have hk := hK; clear hk; simp (disch := first | exact dis | fail) only [push_cast, ↓reduceIte, Nat.reduceAdd, Nat.reduceLeDiff, Nat.reduceEqDiff, Nat.reduceLT, Int.reduceToNat, fct]) | (refine brO_n ?_ ?_ <;> intro hb hc <;> first | (with_reducible exact False.elim hc) | (exfalso; omega) | (simp only [hb]; clear hb)) | ((first | refine zalc ?_ | ((with_reducible refine gBox ?_); refine zbox ?_)); intro gb wb hS) | ((with_reducible refine gSt ?_); refine zs2 ?_; intro wb hS) | (refine zcp 17 (hfw _ hS.x) ?_; intro wb hS) | (refine zcp 18 (hsm _ hS.x) ?_; intro wb hS) | (refine G.cn ?_ ?_ <;> intro hc <;> first | (with_reducible exact False.elim hc) | (exfalso; omega) | skip))) <;> (try clear fct)
    all_goals
      (first | refine G.r1 ?_ | refine G.r2 ?_ | refine G.r3 ?_ | refine G.r0 ?_ | refine G.d0 ?_); (try simp (disch := first | exact dis | fail) only [push_cast, ↓reduceIte, Nat.reduceAdd, Nat.reduceLeDiff, Nat.reduceEqDiff, Nat.reduceLT, Int.reduceToNat, fct])
      (first | exact Sep.xt (by assumption) | exact ⟨rfl, Sep.xt (by assumption)⟩)
  have hsl := hsl hm
  rw [Bool.true_and, Bool.true_and]
  (have fct := (And.intro @hf @hm); repeat' (first | ((with_reducible apply G.a); exact rfl) | refine G.reg fun K hK => ?_ | (with_reducible (refine hK _ _ ?_); clear hK K) | (have hk := hK; clear hk; simp (disch := first | exact dis | fail) only [push_cast, ↓reduceIte, Nat.reduceAdd, Nat.reduceLeDiff, Nat.reduceEqDiff, Nat.reduceLT, Int.reduceToNat, fct]) | (refine brO_n ?_ ?_ <;> intro hb hc <;> first | (with_reducible exact False.elim hc) | (exfalso; omega) | (simp only [hb]; clear hb)) | ((first | refine zalc ?_ | ((with_reducible refine gBox ?_); refine zbox ?_)); intro gb wb hS) | ((with_reducible refine gSt ?_); refine zs2 ?_; intro wb hS) | (refine zcp 17 (hfw _ hS.x) ?_; intro wb hS) | (refine zcp 18 (hsm _ hS.x) ?_; intro wb hS) | (refine G.cn ?_ ?_ <;> intro hc <;> first | (with_reducible exact False.elim hc) | (exfalso; omega) | skip))) <;> (try clear fct)
  all_goals
  refine G.loop (fun r w' => ∃ (k : Nat) (g : Nat), k ≤ vs.length ∧ r 20 = I k ∧ r 19 = I vs.length ∧ r 18 = vr ∧ (rows.drop k).all (fun r => r.all rightM) = rows.all (fun r => r.all rightM) ∧ Sep w w' []) (fun r _ => vs.length - toN (r 20)) ?_ ?_
  · exact ⟨0, 0, Nat.zero_le _, by exact sf, by exact sf, by exact sf, rfl, (Sep.sub hS (by repeat first | exact Sub.rfl' | exact Sub.nil0 | (refine Sub.c (by repeat constructor) ?_) | refine Sub.skip ?_))⟩
  · clear hS
    rintro u wl ⟨k, g, hk, q20, q19, q18, e, hS⟩ ih
    have hmm : toN (u 20) = k := by rw [q20]; simp [toN]
    have h1k := g1.ext hS.x
    by_cases hlt : (k : Int) < vs.length
    · have hst := all_dropS (fun r : List Val => r.all rightM) rows k (by omega)
      rw [e] at hst
      have hrk := i1 k (by omega)
      have hsk := hsl k (by omega)
      have hd : rows.getD k default = rows.getD k [] := rfl
      rw [hd] at hst
      generalize rows.getD k [] = rk at hst hrk hsk
      have hrw := hrk.ext hS.x
      have hbr := hrk.bd
      (have fct := (And.intro @q20 (And.intro @q19 @q18)); repeat' (first | ((with_reducible apply G.a); exact rfl) | refine G.reg fun K hK => ?_ | (with_reducible (refine hK _ _ ?_); clear hK K) | (have hk := hK; clear hk; simp (disch := first | exact dis | fail) only [push_cast, ↓reduceIte, Nat.reduceAdd, Nat.reduceLeDiff, Nat.reduceEqDiff, Nat.reduceLT, Int.reduceToNat, fct]) | (refine brO_n ?_ ?_ <;> intro hb hc <;> first | (with_reducible exact False.elim hc) | (exfalso; omega) | (simp only [hb]; clear hb)) | ((first | refine zalc ?_ | ((with_reducible refine gBox ?_); refine zbox ?_)); intro gb wb hS) | ((with_reducible refine gSt ?_); refine zs2 ?_; intro wb hS) | (refine G.cn ?_ ?_ <;> intro hc <;> first | (with_reducible exact False.elim hc) | (exfalso; omega) | skip))) <;> (try clear fct)
      all_goals
      refine G.loop (fun r w' => ∃ j : Nat, j ≤ rk.length ∧ r 26 = I j ∧ r 25 = I rk.length ∧ r 24 = vs.getD k default ∧ r 20 = I k ∧ r 19 = I vs.length ∧ r 18 = vr ∧ (rk.drop j).all rightM = rk.all rightM ∧ Sep w w' []) (fun r _ => rk.length - toN (r 26)) ?_ ?_
      · have fct := (And.intro @q20 (And.intro @q19 @q18)); exact ⟨0, Nat.zero_le _, by exact sf, by exact sf, by exact sf, by exact sf, by exact sf, by exact sf, rfl, hS⟩
      · clear hS q20 q19 q18 hrw
        rintro u2 wl2 ⟨j, hj, q26, q25, q24, q20, q19, q18, e2, hS⟩ ih2
        have hm2 : toN (u2 26) = j := by rw [q26]; simp [toN]
        by_cases hlj : (j : Int) < rk.length
        · have hst2 := all_dropS rightM rk j hlj
          rw [e2] at hst2
          have hrw := hrk.ext hS.x
          have hsj := hsk _ (getD_mem rk j hlj)
          have hrf := fun (w2 : World) => ref17_spec (rk.getD j default) w2
          have hrr := fun (w2 : World) => rright17_spec (rk.getD j default) w2 (by omega)
          generalize hxx : rk.getD j default = x at *
          cases hr : rightM x
          · rw [hr, Bool.false_and] at hst2
            rw [hst2, Bool.false_and] at hst
            (have fct := (And.intro @q26 (And.intro @q25 (And.intro @q24 (And.intro @q20 (And.intro @q19 (And.intro @q18 (And.intro @hxx @hr))))))); repeat' (first | ((with_reducible apply G.a); exact rfl) | refine G.reg fun K hK => ?_ | (with_reducible (refine hK _ _ ?_); clear hK K) | (have hk := hK; clear hk; simp (disch := first | exact dis | fail) only [push_cast, ↓reduceIte, Nat.reduceAdd, Nat.reduceLeDiff, Nat.reduceEqDiff, Nat.reduceLT, Int.reduceToNat, fct]) | (refine brO_n ?_ ?_ <;> intro hb hc <;> first | (with_reducible exact False.elim hc) | (exfalso; omega) | (simp only [hb]; clear hb)) | ((first | refine zalc ?_ | ((with_reducible refine gBox ?_); refine zbox ?_)); intro gb wb hS) | ((with_reducible refine gSt ?_); refine zs2 ?_; intro wb hS) | (refine zcp 20 (hrf _) ?_; intro wb hS) | (refine zcp 19 (hrr _) ?_; intro wb hS) | (refine G.cn ?_ ?_ <;> intro hc <;> first | (with_reducible exact False.elim hc) | (exfalso; omega) | skip))) <;> (try clear fct)
            all_goals
              (have fct := (And.intro @q26 (And.intro @q25 (And.intro @q24 (And.intro @q20 (And.intro @q19 @q18))))); (first | refine G.r1 ?_ | refine G.r2 ?_ | refine G.r3 ?_ | refine G.r0 ?_ | refine G.d0 ?_); (try simp (disch := first | exact dis | fail) only [push_cast, ↓reduceIte, Nat.reduceAdd, Nat.reduceLeDiff, Nat.reduceEqDiff, Nat.reduceLT, Int.reduceToNat, fct]); (try clear fct))
              rw [hst]
              (first | exact Sep.xt (by assumption) | exact ⟨rfl, Sep.xt (by assumption)⟩)
          · rw [hr, Bool.true_and] at hst2
            (have fct := (And.intro @q26 (And.intro @q25 (And.intro @q24 (And.intro @q20 (And.intro @q19 (And.intro @q18 (And.intro @hxx @hr))))))); repeat' (first | ((with_reducible apply G.a); exact rfl) | refine G.reg fun K hK => ?_ | (with_reducible (refine hK _ _ ?_); clear hK K) | (have hk := hK; clear hk; simp (disch := first | exact dis | fail) only [push_cast, ↓reduceIte, Nat.reduceAdd, Nat.reduceLeDiff, Nat.reduceEqDiff, Nat.reduceLT, Int.reduceToNat, fct]) | (refine brO_n ?_ ?_ <;> intro hb hc <;> first | (with_reducible exact False.elim hc) | (exfalso; omega) | (simp only [hb]; clear hb)) | ((first | refine zalc ?_ | ((with_reducible refine gBox ?_); refine zbox ?_)); intro gb wb hS) | ((with_reducible refine gSt ?_); refine zs2 ?_; intro wb hS) | (refine zcp 20 (hrf _) ?_; intro wb hS) | (refine zcp 19 (hrr _) ?_; intro wb hS) | (refine G.cn ?_ ?_ <;> intro hc <;> first | (with_reducible exact False.elim hc) | (exfalso; omega) | skip))) <;> (try clear fct)
            all_goals
              have fct := (And.intro @q26 (And.intro @q25 (And.intro @q24 (And.intro @q20 (And.intro @q19 @q18))))); refine ih2 _ _ ⟨j + 1, by omega, by exact sf, by exact sf, by exact sf, by exact sf, by exact sf, by exact sf, hst2.symm, (Sep.sub hS (by repeat first | exact Sub.rfl' | exact Sub.nil0 | (refine Sub.c (by repeat constructor) ?_) | refine Sub.skip ?_))⟩ ?_
              rw [hm2]; simp only [push_cast, ↓reduceIte, Nat.reduceAdd, Nat.reduceLeDiff, Nat.reduceEqDiff, Nat.reduceLT, Int.reduceToNat, toN_i, q26, q25, q24, q20, q19, q18]; omega
        · rw [List.drop_eq_nil_of_le (by omega), List.all_nil] at e2
          rw [← e2, Bool.true_and] at hst
          (have fct := (And.intro @q26 (And.intro @q25 (And.intro @q24 (And.intro @q20 (And.intro @q19 @q18))))); repeat' (first | ((with_reducible apply G.a); exact rfl) | refine G.reg fun K hK => ?_ | (with_reducible (refine hK _ _ ?_); clear hK K) | (have hk := hK; clear hk; simp (disch := first | exact dis | fail) only [push_cast, ↓reduceIte, Nat.reduceAdd, Nat.reduceLeDiff, Nat.reduceEqDiff, Nat.reduceLT, Int.reduceToNat, fct]) | (refine brO_n ?_ ?_ <;> intro hb hc <;> first | (with_reducible exact False.elim hc) | (exfalso; omega) | (simp only [hb]; clear hb)) | ((first | refine zalc ?_ | ((with_reducible refine gBox ?_); refine zbox ?_)); intro gb wb hS) | ((with_reducible refine gSt ?_); refine zs2 ?_; intro wb hS) | (refine G.cn ?_ ?_ <;> intro hc <;> first | (with_reducible exact False.elim hc) | (exfalso; omega) | skip))) <;> (try clear fct)
          all_goals
            have fct := (And.intro @q26 (And.intro @q25 (And.intro @q24 (And.intro @q20 (And.intro @q19 @q18))))); refine ih _ _ ⟨k + 1, 0, by omega, by exact sf, by exact sf, by exact sf, hst.symm, hS⟩ ?_
            rw [hmm]; simp only [push_cast, ↓reduceIte, Nat.reduceAdd, Nat.reduceLeDiff, Nat.reduceEqDiff, Nat.reduceLT, Int.reduceToNat, toN_i, q26, q25, q24, q20, q19, q18]; omega
    · rw [List.drop_eq_nil_of_le (by omega), List.all_nil] at e
      (have fct := (And.intro @q20 (And.intro @q19 @q18)); repeat' (first | ((with_reducible apply G.a); exact rfl) | refine G.reg fun K hK => ?_ | (with_reducible (refine hK _ _ ?_); clear hK K) | (have hk := hK; clear hk; simp (disch := first | exact dis | fail) only [push_cast, ↓reduceIte, Nat.reduceAdd, Nat.reduceLeDiff, Nat.reduceEqDiff, Nat.reduceLT, Int.reduceToNat, fct]) | (refine brO_n ?_ ?_ <;> intro hb hc <;> first | (with_reducible exact False.elim hc) | (exfalso; omega) | (simp only [hb]; clear hb)) | ((first | refine zalc ?_ | ((with_reducible refine gBox ?_); refine zbox ?_)); intro gb wb hS) | ((with_reducible refine gSt ?_); refine zs2 ?_; intro wb hS) | (refine G.cn ?_ ?_ <;> intro hc <;> first | (with_reducible exact False.elim hc) | (exfalso; omega) | skip))) <;> (try clear fct)
      all_goals
        (have fct := (And.intro @q20 (And.intro @q19 @q18)); (first | refine G.r1 ?_ | refine G.r2 ?_ | refine G.r3 ?_ | refine G.r0 ?_ | refine G.d0 ?_); (try simp (disch := first | exact dis | fail) only [push_cast, ↓reduceIte, Nat.reduceAdd, Nat.reduceLeDiff, Nat.reduceEqDiff, Nat.reduceLT, Int.reduceToNat, fct]); (try clear fct))
        rw [← e]
        (first | exact Sep.xt (by assumption) | exact ⟨rfl, Sep.xt (by assumption)⟩)
end Go.Proofs.YtjajihaeoolefaaDoor
