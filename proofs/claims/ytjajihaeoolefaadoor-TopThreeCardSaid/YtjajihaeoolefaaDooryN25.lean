/- Texts of the proof, joined. -/
import Derived.Test.YtjajihaeoolefaaDooryZ25
import Derived.Test.YtjajihaeoolefaaDooryMk
namespace Go.Proofs.YtjajihaeoolefaaDoor
set_option linter.unusedSimpArgs false
set_option linter.unusedVariables false
attribute [local irreducible] SemK UnitK StK AlcK BslK CallK CallV Instr.box Builtin.append_ Instr.makeSlice Instr.makeMap Instr.lookup Instr.mapUpdate Instr.sliceAt convert
open Go.RowKit
def c51 : MC := (.seq (.reg [qq 4 (.mv (.const (.slice none 0 0)))]) (.seq (.seq (.reg [qm 5 1, qq 6 (.bin .lss (.tmp 5) (ki 0))]) (.cond (.tmp 6) (.reg [qq 7 (.raw (.makeInterface 9 (.const (S [99, 97, 110, 110, 111, 116, 32, 98, 101, 32, 110, 101, 103, 97, 116, 105, 118, 101]))) 20), qn (.raw (.panic (.tmp 7)) 0)]) .skip)) (.seq (.seq (.reg [qm 8 1, qm 9 0, qq 10 (.raw (.call ⟨(.builtin .cap), #[(.tmp 9)], #[27]⟩) 3), qm 11 0, qq 12 (.len (.tmp 11)), qq 13 (.bin .sub (.tmp 10) (.tmp 12)), qq 14 (.bin .sub (.tmp 8) (.tmp 13)), qm 1 14]) (.seq (.reg [qm 15 1, qq 16 (.bin .gtr (.tmp 15) (ki 0))]) (.cond (.tmp 16) (.reg [qm 17 0, qm 18 0, qq 19 (.raw (.call ⟨(.builtin .cap), #[(.tmp 18)], #[27]⟩) 3), qq 20 (.slV 3 (.tmp 17) none (.some (.tmp 19))), qm 21 1, qq 22 (.raw (.call ⟨(.builtin .append), #[(.tmp 20), (.tmp 21)], #[27, 3]⟩) 27), qm 23 0, qq 24 (.len (.tmp 23)), qq 25 (.slV 3 (.tmp 22) none (.some (.tmp 24))), qm 0 25]) .skip))) (.seq (.reg [qm 26 0, qm 4 26]) .ret))))
theorem k51 : conv Tryd.prog 27 (Tryd.f51.body.getD .skip) = c51 := by kernel_rfl
theorem in51 {a0 a1 : Value} {w : World} {R : Value → World → Prop} (h : G Tryd.prog Tryd.f51 27 [.c c51] R (frL 0 [a0, a1]) w) : Ret Tryd.prog 51 #[a0, a1] w R := G.enter (args := [a0, a1]) Tryd.func51 (c := Tryd.f51.body.getD .skip) (by kernel_rfl) (by kernel_rfl) (by simp) k51 h
theorem grow_spec (n : Nat) (w : World) (hn : n ≤ 1000000) : Ret Tryd.prog 51 #[.slice none 0 0, I n] w fun v w' => Sep w w' [accC v 34 eCg []] := by
  refine in51 ?_
  have hS := Sep.start w
  have hnl : slVV 3 none (some (I 0)) (.slice none 0 0) = .slice none 0 0 := rfl
  have hok : okSlV none (some (I 0)) (.slice none 0 0) = True := by simp [okSlV, okI, loN, hiN]
  have hT : SlT Tryd.prog 27 34 eCg.sz 56 [(.int .i64 0), (.slice none 0 0), (.slice none 0 0)] := dsl
  have hsub : (n : Int) - (0 - 0) = n := by omega
  by_cases h0 : n = 0
  · subst h0
    (have fct := (And.intro @hsub (And.intro @isL_x @lenV_x)); repeat' (first | ((with_reducible apply G.a); exact rfl) | refine G.reg fun K hK => ?_ | (with_reducible (refine hK _ _ ?_); clear hK K) | (have hk := hK; clear hk; simp (disch := first | exact dis | fail) only [push_cast, ↓reduceIte, Nat.reduceAdd, Nat.reduceLeDiff, Nat.reduceEqDiff, Nat.reduceLT, Int.reduceToNat, fct]) | (refine cap0K hT ?_) | (refine G.cn ?_ ?_ <;> intro hc <;> first | (with_reducible exact False.elim hc) | (exfalso; omega) | skip))) <;> (try clear fct)
    all_goals
      (first | refine G.r1 ?_ | refine G.r2 ?_ | refine G.r3 ?_ | refine G.r0 ?_ | refine G.d0 ?_); (try simp (disch := first | exact dis | fail) only [push_cast, ↓reduceIte, Nat.reduceAdd, Nat.reduceLeDiff, Nat.reduceEqDiff, Nat.reduceLT, Int.reduceToNat, fct])
      exact hS.nil _ _
  · (have fct := (And.intro @hsub (And.intro @hnl (And.intro @hok (And.intro @isL_x @lenV_x)))); repeat' (first | ((with_reducible apply G.a); exact rfl) | refine G.reg fun K hK => ?_ | (with_reducible (refine hK _ _ ?_); clear hK K) | (have hk := hK; clear hk; simp (disch := first | exact dis | fail) only [push_cast, ↓reduceIte, Nat.reduceAdd, Nat.reduceLeDiff, Nat.reduceEqDiff, Nat.reduceLT, Int.reduceToNat, fct]) | (refine cap0K hT ?_) | (refine grow0K (E := eCg) (z0 := ((0 : Int), Value.slice none 0 0, Value.slice none 0 0)) hS hT rfl (by decide) Tryd.underlying3 (by omega) hn (by decide) (by exact dones) ?_; intro vb wb hS) | (refine G.cn ?_ ?_ <;> intro hc <;> first | (with_reducible exact False.elim hc) | (exfalso; omega) | skip))) <;> (try clear fct)
    all_goals
      (first | refine G.r1 ?_ | refine G.r2 ?_ | refine G.r3 ?_ | refine G.r0 ?_ | refine G.d0 ?_); (try simp (disch := first | exact dis | fail) only [push_cast, ↓reduceIte, Nat.reduceAdd, Nat.reduceLeDiff, Nat.reduceEqDiff, Nat.reduceLT, Int.reduceToNat, fct])
      exact hS.cut0 Up.h
def sumL (xss : List (List (Int × Value × Value))) : Nat := (xss.map List.length).sum
theorem sumL_flat (xss : List (List (Int × Value × Value))) : xss.flatten.length = sumL xss := by unfold sumL; rw [List.length_flatten]
theorem sumL_step (xss : List (List (Int × Value × Value))) (k : Nat) (h : (k : Int) < xss.length) : sumL (xss.take (k + 1)) = sumL (xss.take k) + (xss.getD k []).length := by
  unfold sumL
  rw [takeD xss k h, List.map_append, List.sum_append]
  simp
  rfl
theorem sumL_le (xss : List (List (Int × Value × Value))) (k : Nat) : sumL (xss.take k) ≤ sumL xss := by
  have h : sumL xss = sumL (xss.take k) + sumL (xss.drop k) := by
    unfold sumL
    conv => lhs; rw [← List.take_append_drop k xss]
    rw [List.map_append, List.sum_append]
  omega
def c37l1 : MC := (.seq (.reg [qq 12 (.bin .lss (.tmp 11) (.tmp 10))]) (.seq (.cond (.tmp 12) .skip (.exit 0)) (.seq (.blk 1 (.seq (.reg [qq 13 (.adr 1 (.tmp 9) (.tmp 11)), qq 14 (.ld none (.tmp 13)), qm 5 14]) (.seq (.reg [qm 15 3, qm 16 5, qq 17 (.len (.tmp 16)), qq 18 (.bin .add (.tmp 15) (.tmp 17)), qm 3 18]) (.seq (.reg [qm 19 3, qq 20 (.bin .lss (.tmp 19) (ki 0))]) (.cond (.tmp 20) (.reg [qq 21 (.raw (.makeInterface 9 (.const (S [108, 101, 110, 32, 111, 117, 116, 32, 111, 102, 32, 114, 97, 110, 103, 101]))) 20), qn (.raw (.panic (.tmp 21)) 0)]) .skip))))) (.reg [qq 22 (.bin .add (.tmp 11) (ki 1)), qm 11 22]))))
def c37l2 : MC := (.seq (.reg [qq 28 (.bin .lss (.tmp 27) (.tmp 26))]) (.seq (.cond (.tmp 28) .skip (.exit 2)) (.seq (.blk 3 (.seq (.reg [qq 29 (.adr 1 (.tmp 25) (.tmp 27)), qq 30 (.ld none (.tmp 29)), qm 8 30]) (.reg [qm 31 6, qm 32 8, qq 33 (.raw (.call ⟨(.builtin .append), #[(.tmp 31), (.tmp 32)], #[27, 27]⟩) 27), qm 6 33]))) (.reg [qq 34 (.bin .add (.tmp 27) (ki 1)), qm 27 34]))))
def c37 : MC := (.seq (.reg [qq 2 (.mv (.const (.slice none 0 0)))]) (.seq (.reg [qq 3 (.mv (ki 0))]) (.seq (.seq (.reg [qm 9 0, qq 10 (.len (.tmp 9)), qq 11 (.mv (ki 0))]) (.blk 0 (.loop c37l1))) (.seq (.reg [qm 23 3, qq 24 (.call 51 [(.const (.slice none 0 0)), (.tmp 23)]), qm 6 24]) (.seq (.seq (.reg [qm 25 0, qq 26 (.len (.tmp 25)), qq 27 (.mv (ki 0))]) (.blk 2 (.loop c37l2))) (.seq (.reg [qm 35 6, qm 2 35]) .ret))))))
theorem k37 : conv Tryd.prog 36 (Tryd.f37.body.getD .skip) = c37 := by kernel_rfl
theorem in37 {a0 : Value} {w : World} {R : Value → World → Prop} (h : G Tryd.prog Tryd.f37 36 [.c c37] R (frL 0 [a0]) w) : Ret Tryd.prog 37 #[a0] w R := G.enter (args := [a0]) Tryd.func37 (c := Tryd.f37.body.getD .skip) (by kernel_rfl) (by kernel_rfl) (by simp) k37 h
theorem concat_spec {v : Value} {us : List Value} {xss : List (List (Int × Value × Value))} {w : World} (h0 : Rd w eV v us) (hl : us.length = xss.length) (hr : ∀ i, i < us.length → Rd w eCg (us.getD i default) (xss.getD i [])) (hs : sumL xss ≤ 1000000) :
    Ret Tryd.prog 37 #[v] w fun v' w' => Sep w w' [accC v' 34 eCg xss.flatten] := by
  refine in37 ?_
  have hS := Sep.start w
  have hbd := h0.bd
  repeat' (first | ((with_reducible apply G.a); exact rfl) | refine G.reg fun K hK => ?_ | (with_reducible (refine hK _ _ ?_); clear hK K) | (have hk := hK; clear hk; simp (disch := first | exact dis | fail) only [push_cast, ↓reduceIte, Nat.reduceAdd, Nat.reduceLeDiff, Nat.reduceEqDiff, Nat.reduceLT, Int.reduceToNat, fct]) | (refine G.cn ?_ ?_ <;> intro hc <;> first | (with_reducible exact False.elim hc) | (exfalso; omega) | skip))
  all_goals
  refine G.loop (fun r w' => ∃ k : Nat, k ≤ us.length ∧ r 11 = I k ∧ r 10 = I us.length ∧ r 9 = v ∧ r 0 = v ∧ r 3 = I (sumL (xss.take k)) ∧ Sep w w' []) (fun r _ => us.length - toN (r 11)) ?_ ?_
  · exact ⟨0, Nat.zero_le _, by exact sf, by exact sf, by exact sf, by exact sf, by exact sf, hS⟩
  · clear hS
    rintro u wl ⟨k, hk, q11, q10, q9, q0, q3, hS⟩ ih
    have hm : toN (u 11) = k := by rw [q11]; simp [toN]
    have h1k := h0.ext hS.x
    by_cases hlt : (k : Int) < us.length
    · have hst := sumL_step xss k (by omega)
      have hle := sumL_le xss (k + 1)
      have hrk := hr k (by omega)
      generalize xss.getD k [] = xk at hst hrk
      have hrw := hrk.ext hS.x
      (have fct := (And.intro @q11 (And.intro @q10 (And.intro @q9 (And.intro @q0 @q3)))); repeat' (first | ((with_reducible apply G.a); exact rfl) | refine G.reg fun K hK => ?_ | (with_reducible (refine hK _ _ ?_); clear hK K) | (have hk := hK; clear hk; simp (disch := first | exact dis | fail) only [push_cast, ↓reduceIte, Nat.reduceAdd, Nat.reduceLeDiff, Nat.reduceEqDiff, Nat.reduceLT, Int.reduceToNat, fct]) | (refine G.cn ?_ ?_ <;> intro hc <;> first | (with_reducible exact False.elim hc) | (exfalso; omega) | skip))) <;> (try clear fct)
      all_goals
        have fct := (And.intro @q11 (And.intro @q10 (And.intro @q9 (And.intro @q0 @q3)))); refine ih _ _ ⟨k + 1, by omega, by exact sf, by exact sf, by exact sf, by exact sf, by rw [hst]; simp only [push_cast, ↓reduceIte, Nat.reduceAdd, Nat.reduceLeDiff, Nat.reduceEqDiff, Nat.reduceLT, Int.reduceToNat, q11, q10, q9, q0, q3], hS⟩ ?_
        rw [hm]; simp only [push_cast, ↓reduceIte, Nat.reduceAdd, Nat.reduceLeDiff, Nat.reduceEqDiff, Nat.reduceLT, Int.reduceToNat, toN_i, q11, q10, q9, q0, q3]; omega
    · rw [List.take_of_length_le (by omega)] at q3
      clear ih
      (have fct := (And.intro @q11 (And.intro @q10 (And.intro @q9 (And.intro @q0 @q3)))); repeat' (first | ((with_reducible apply G.a); exact rfl) | refine G.reg fun K hK => ?_ | (with_reducible (refine hK _ _ ?_); clear hK K) | (have hk := hK; clear hk; simp (disch := first | exact dis | fail) only [push_cast, ↓reduceIte, Nat.reduceAdd, Nat.reduceLeDiff, Nat.reduceEqDiff, Nat.reduceLT, Int.reduceToNat, fct]) | (refine zco 51 (grow_spec (sumL xss) _ hs) ?_; rintro vb wb hS2; have hS := hS2.ap; simp only [apps] at hS) | (refine G.cn ?_ ?_ <;> intro hc <;> first | (with_reducible exact False.elim hc) | (exfalso; omega) | skip))) <;> (try clear fct)
      all_goals
      refine G.loop (fun r w' => ∃ (k : Nat) (lv : Value), k ≤ us.length ∧ r 27 = I k ∧ r 26 = I us.length ∧ r 25 = v ∧ r 6 = lv ∧ Sep w w' [accC lv 34 eCg (xss.take k).flatten]) (fun r _ => us.length - toN (r 27)) ?_ ?_
      · have fct := (And.intro @q11 (And.intro @q10 (And.intro @q9 (And.intro @q0 @q3)))); exact ⟨0, _, Nat.zero_le _, by exact sf, by exact sf, by exact sf, by exact sf, hS⟩
      · clear hS q11 q10 q9 q0 q3 hm
        rintro u2 wl2 ⟨k2, lv, hk2, q27, q26, q25, q6, hS⟩ ih
        have hm : toN (u2 27) = k2 := by rw [q27]; simp [toN]
        have h1k := h0.ext hS.x
        by_cases hlt2 : (k2 : Int) < us.length
        · have hst := sumL_step xss k2 (by omega)
          have hle := sumL_le xss (k2 + 1)
          have hfl := sumL_flat (xss.take k2)
          have hfs : (xss.take (k2 + 1)).flatten = (xss.take k2).flatten ++ xss.getD k2 [] := by
            rw [takeD xss k2 (by omega), List.flatten_append]
            simp
            rfl
          have hrk := hr k2 (by omega)
          generalize xss.getD k2 [] = xk at hst hrk hfs
          have hrw := hrk.ext hS.x
          (have fct := (And.intro @q27 (And.intro @q26 (And.intro @q25 @q6))); repeat' (first | ((with_reducible apply G.a); exact rfl) | refine G.reg fun K hK => ?_ | (with_reducible (refine hK _ _ ?_); clear hK K) | (have hk := hK; clear hk; simp (disch := first | exact dis | fail) only [push_cast, ↓reduceIte, Nat.reduceAdd, Nat.reduceLeDiff, Nat.reduceEqDiff, Nat.reduceLT, Int.reduceToNat, fct]) | (refine zan ?_; intro vb wb hS) | (refine G.cn ?_ ?_ <;> intro hc <;> first | (with_reducible exact False.elim hc) | (exfalso; omega) | skip))) <;> (try clear fct)
          all_goals
            rw [← hfs] at hS
            have fct := (And.intro @q27 (And.intro @q26 (And.intro @q25 @q6))); refine ih _ _ ⟨k2 + 1, _, by omega, by exact sf, by exact sf, by exact sf, by exact sf, hS⟩ ?_
            rw [hm]; simp only [push_cast, ↓reduceIte, Nat.reduceAdd, Nat.reduceLeDiff, Nat.reduceEqDiff, Nat.reduceLT, Int.reduceToNat, toN_i, q27, q26, q25, q6]; omega
        · rw [List.take_of_length_le (by omega)] at hS
          (have fct := (And.intro @q27 (And.intro @q26 (And.intro @q25 @q6))); repeat' (first | ((with_reducible apply G.a); exact rfl) | refine G.reg fun K hK => ?_ | (with_reducible (refine hK _ _ ?_); clear hK K) | (have hk := hK; clear hk; simp (disch := first | exact dis | fail) only [push_cast, ↓reduceIte, Nat.reduceAdd, Nat.reduceLeDiff, Nat.reduceEqDiff, Nat.reduceLT, Int.reduceToNat, fct]) | (refine G.cn ?_ ?_ <;> intro hc <;> first | (with_reducible exact False.elim hc) | (exfalso; omega) | skip))) <;> (try clear fct)
          all_goals
            (have fct := (And.intro @q27 (And.intro @q26 (And.intro @q25 @q6))); (first | refine G.r1 ?_ | refine G.r2 ?_ | refine G.r3 ?_ | refine G.r0 ?_ | refine G.d0 ?_); (try simp (disch := first | exact dis | fail) only [push_cast, ↓reduceIte, Nat.reduceAdd, Nat.reduceLeDiff, Nat.reduceEqDiff, Nat.reduceLT, Int.reduceToNat, fct]); (try clear fct))
            exact hS
end Go.Proofs.YtjajihaeoolefaaDoor
