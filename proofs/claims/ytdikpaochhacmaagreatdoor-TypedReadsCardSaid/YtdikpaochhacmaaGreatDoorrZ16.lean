/- Texts of the proof, joined. -/
import Derived.Test.YtdikpaochhacmaaGreatDoorrY16
namespace Go.Proofs.YtdikpaochhacmaaGreatDoor
set_option linter.unusedSimpArgs false
set_option linter.unusedVariables false
attribute [local irreducible] SemK UnitK StK AlcK BslK CallK CallV Instr.box Builtin.append_ Instr.makeSlice Instr.makeMap Instr.lookup Instr.mapUpdate Instr.sliceAt convert
open Go.RowKit
def pvM (s : Str) (k : Nat) : Int := if negM s = true then -(decV ((s.take k).drop 1) : Int) else decV (s.take k)
theorem decV_le (p q : Str) : decV p ≤ decV (p ++ q) := by
  have : decV (p ++ q) = decV p * 10 ^ q.length + decV q := by
    show (p ++ q).foldl _ 0 = _
    rw [List.foldl_append]
    exact decV_acc q (decV p)
  have h1 : 0 < 10 ^ q.length := Nat.pos_of_ne_zero (by simp)
  have h2 := Nat.mul_le_mul_left (decV p) h1
  omega
theorem pv_le (s : Str) (k : Nat) : (negM s = true → numM s ≤ pvM s k ∧ pvM s k ≤ 0) ∧ (negM s = false → 0 ≤ pvM s k ∧ pvM s k ≤ numM s) := by
  constructor
  · intro h
    unfold pvM numM trM
    rw [if_pos h, if_pos h, if_pos h]
    have e : s.drop 1 = (s.take k).drop 1 ++ s.drop (max k 1) := by
      by_cases hk : 1 ≤ k
      · rw [show max k 1 = k by omega]
        conv => lhs; rw [← List.take_append_drop k s]
        by_cases hs : s = []
        · subst hs; simp
        · have : 1 ≤ (s.take k).length := by
            rw [List.length_take]
            have : s.length ≠ 0 := fun e => hs (List.eq_nil_of_length_eq_zero e)
            omega
          rw [List.drop_append_of_le_length this]
      · have : k = 0 := by omega
        subst this; simp
    have := decV_le ((s.take k).drop 1) (s.drop (max k 1))
    rw [← e] at this
    omega
  · intro h
    unfold pvM numM
    rw [if_neg (by rw [h]; simp), if_neg (by rw [h]; simp), tr_pos h]
    have := decV_le (s.take k) (s.drop k)
    rw [List.take_append_drop] at this
    omega
theorem form_dig {s : Str} (h : formM s = true) (k : Nat) (hk : (k : Int) < s.length) : (k = 0 ∧ negM s = true ∧ s.getD k 0 = 45) ∨ (dgB (s.getD k 0) = true ∧ (negM s = true → 1 ≤ k)) := by
  have hc := (form_can h).1
  have ha := can_all hc
  cases hn : negM s
  · rw [tr_pos hn] at ha
    right
    refine ⟨?_, fun h => by simp at h⟩
    have hm : s.getD k 0 ∈ s := by
      rw [List.getD_eq_getElem?_getD, List.getElem?_eq_getElem (show k < s.length by omega)]
      simp
    exact List.all_eq_true.1 ha _ hm
  · have hs := tr_neg hn
    by_cases h0 : k = 0
    · left; subst h0; exact ⟨rfl, rfl, by rw [hs]; rfl⟩
    · right
      refine ⟨?_, fun _ => by omega⟩
      obtain ⟨j, rfl⟩ : ∃ j, k = j + 1 := ⟨k - 1, by omega⟩
      rw [hs] at hk ⊢
      simp only [List.length_cons] at hk
      have hm : (trM s).getD j 0 ∈ trM s := by
        rw [List.getD_eq_getElem?_getD, List.getElem?_eq_getElem (show j < (trM s).length by omega)]
        simp
      have := List.all_eq_true.1 ha _ hm
      simpa using this
theorem takeB16 (l : Str) (k : Nat) (h : (k : Int) < l.length) : l.take (k + 1) = l.take k ++ [l.getD k 0] := by
  rw [List.take_succ_eq_append_getElem (by omega)]
  simp [List.getD, List.getElem?_eq_getElem (show k < l.length by omega)]
theorem pv_step {s : Str} {k : Nat} (hk : (k : Int) < s.length) (hn : negM s = true → 1 ≤ k) : pvM s (k + 1) = if negM s = true then pvM s k * 10 - ((s.getD k 0).toNat - 48 : Nat) else pvM s k * 10 + ((s.getD k 0).toNat - 48 : Nat) := by
  unfold pvM
  rw [takeB16 s k hk]
  cases h : negM s
  · simp only [Bool.false_eq_true, if_false]
    rw [decV_app]; omega
  · simp only [if_true]
    have : 1 ≤ (s.take k).length := by rw [List.length_take]; have := hn h; omega
    rw [List.drop_append_of_le_length this, decV_app]; omega
theorem pv_end (s : Str) (k : Nat) (h : s.length ≤ k) : pvM s k = numM s := by
  unfold pvM numM trM
  rw [List.take_of_length_le h]
  cases negM s <;> simp
theorem form_min : formM [45, 57, 50, 50, 51, 51, 55, 50, 48, 51, 54, 56, 53, 52, 55, 55, 53, 56, 48, 56] = true ∧ numM [45, 57, 50, 50, 51, 51, 55, 50, 48, 51, 54, 56, 53, 52, 55, 55, 53, 56, 48, 56] = -9223372036854775808 := by decide +kernel
theorem form_max : formM [57, 50, 50, 51, 51, 55, 50, 48, 51, 54, 56, 53, 52, 55, 55, 53, 56, 48, 55] = true ∧ numM [57, 50, 50, 51, 51, 55, 50, 48, 51, 54, 56, 53, 52, 55, 55, 53, 56, 48, 55] = 9223372036854775807 := by decide +kernel
def c73l1 : MC := (.seq (.seq (.reg [qm 19 6, qm 20 0, qq 21 (.lenS (.tmp 20)), qq 22 (.bin .lss (.tmp 19) (.tmp 21))]) (.cond (.tmp 22) .skip (.exit 0))) (.seq (.blk 1 (.seq (.seq (.reg [qm 25 0, qm 26 6, qq 27 (.idxS (.tmp 25) (.tmp 26)), qq 28 (.bin .eql (.tmp 27) (.const (.int .u8 45)))]) (.cond (.tmp 28) (.exit 1) .skip)) (.seq (.reg [qm 29 5]) (.cond (.tmp 29) (.reg [qm 30 4, qq 31 (.bin .mul (.tmp 30) (ki 10)), qm 32 0, qm 33 6, qq 34 (.idxS (.tmp 32) (.tmp 33)), qq 35 (.bin .sub (.tmp 34) (.const (.int .u8 48))), qq 36 (.cvi .i64 (.tmp 35)), qq 37 (.bin .sub (.tmp 31) (.tmp 36)), qm 4 37]) (.reg [qm 38 4, qq 39 (.bin .mul (.tmp 38) (ki 10)), qm 40 0, qm 41 6, qq 42 (.idxS (.tmp 40) (.tmp 41)), qq 43 (.bin .sub (.tmp 42) (.const (.int .u8 48))), qq 44 (.cvi .i64 (.tmp 43)), qq 45 (.bin .add (.tmp 39) (.tmp 44)), qm 4 45]))))) (.reg [qm 23 6, qq 24 (.bin .add (.tmp 23) (ki 1)), qm 6 24])))
def c73 : MC := (.seq (.reg [qq 2 (.mv (ki 0)), qq 3 (.mv (ki 0))]) (.seq (.seq (.reg [qm 7 0, qq 8 (.call 102 [(.tmp 7)]), qq 9 (.un .not (.tmp 8))]) (.cond (.tmp 9) (.seq (.reg [qq 2 (.mv (ki 0)), qq 3 (.mv (ki 17))]) .ret) .skip)) (.seq (.seq (.reg [qm 10 0, qq 11 (.call 103 [(.tmp 10), (.const (S [45, 57, 50, 50, 51, 51, 55, 50, 48, 51, 54, 56, 53, 52, 55, 55, 53, 56, 48, 56]))]), qm 12 11, qmf 12 13 0, qf 12 14 (.call 103 [(.const (S [57, 50, 50, 51, 51, 55, 50, 48, 51, 54, 56, 53, 52, 55, 55, 53, 56, 48, 55])), (.tmp 13)]), qq 15 (.pick (.tmp 12) (kb true) (.tmp 14))]) (.cond (.tmp 15) (.seq (.reg [qq 2 (.mv (ki 0)), qq 3 (.mv (ki 18))]) .ret) .skip)) (.seq (.reg [qq 4 (.mv (ki 0))]) (.seq (.reg [qm 16 0, qq 17 (.idxS (.tmp 16) (ki 0)), qq 18 (.bin .eql (.tmp 17) (.const (.int .u8 45))), qm 5 18]) (.seq (.seq (.reg [qq 6 (.mv (ki 0))]) (.blk 0 (.loop c73l1))) (.seq (.reg [qm 46 4, qm 2 46, qq 3 (.mv (ki 0))]) .ret)))))))
theorem k73 : conv Tryz.prog 47 (Tryz.f73.body.getD .skip) = c73 := by kernel_rfl
theorem in73 {a0 : Value} {w : World} {R : Value → World → Prop} (h : G Tryz.prog Tryz.f73 47 [.c c73] R (frL 0 [a0]) w) : Ret Tryz.prog 73 #[a0] w R := G.enter (args := [a0]) Tryz.func73 (c := Tryz.f73.body.getD .skip) (by kernel_rfl) (by kernel_rfl) (by simp) k73 h
theorem rparse16_spec (s : Str) (w : World) (hl : s.length ≤ 1000000) : Pu Tryz.prog 73 #[S s] w (.tuple #[I (pnM s).1, I (pnM s).2]) := by
  refine in73 ?_
  have hS := Sep.start w
  unfold pnM
  by_cases hf : formM s = true
  · rw [if_neg (by rw [hf]; simp)]
    have l1 := less_num hf form_min.1
    have l2 := less_num form_max.1 hf
    rw [form_min.2] at l1
    rw [form_max.2] at l2
    have hnn := form_nn hf
    have hna := neg_at hnn
    by_cases hr : -9223372036854775808 ≤ numM s ∧ numM s ≤ 9223372036854775807
    · rw [if_pos hr]
      rw [decide_eq_false (by omega)] at l1 l2
      have hpe := pv_end s
      (have fct := (And.intro @hf (And.intro @l1 (And.intro @l2 @hna))); repeat' (first | ((with_reducible apply G.a); exact rfl) | refine G.reg fun K hK => ?_ | (with_reducible (refine hK _ _ ?_); clear hK K) | (have hk := hK; clear hk; simp (disch := first | exact dis | fail) only [push_cast, ↓reduceIte, Nat.reduceAdd, Nat.reduceLeDiff, Nat.reduceEqDiff, Nat.reduceLT, Int.reduceToNat, fct]) | (refine brO_n ?_ ?_ <;> intro hb hc <;> first | (with_reducible exact False.elim hc) | (exfalso; omega) | (simp only [hb]; clear hb)) | (refine zcp 102 (rform_spec s _ hl) ?_; intro wb hS) | ((with_reducible (show CallK _ 103 [S s, _] _ _ _ _)); refine zcp 103 (rless_spec s [45, 57, 50, 50, 51, 51, 55, 50, 48, 51, 54, 56, 53, 52, 55, 55, 53, 56, 48, 56] _ hl (by simp)) ?_; intro wb hS) | ((with_reducible (show CallK _ 103 [_, S s] _ _ _ _)); refine zcp 103 (rless_spec [57, 50, 50, 51, 51, 55, 50, 48, 51, 54, 56, 53, 52, 55, 55, 53, 56, 48, 55] s _ (by simp) hl) ?_; intro wb hS) | (refine G.cn ?_ ?_ <;> intro hc <;> first | (with_reducible exact False.elim hc) | (exfalso; omega) | skip))) <;> (try clear fct)
      refine G.loop (fun r w' => ∃ k : Nat, k ≤ s.length ∧ r 6 = I k ∧ r 5 = .bool (negM s) ∧ r 4 = I (pvM s k) ∧ r 0 = S s ∧ Sep w w' []) (fun r _ => s.length - toN (r 6)) ?_ ?_
      · refine ⟨0, ?_⟩
        ((repeat' apply And.intro) <;> first | exact dj | (simp only [push_cast, ↓reduceIte, Nat.reduceAdd, Nat.reduceLeDiff, Nat.reduceEqDiff, Nat.reduceLT, Int.reduceToNat, hna] <;> omega) | skip)
        all_goals (simp only [push_cast, ↓reduceIte, Nat.reduceAdd, Nat.reduceLeDiff, Nat.reduceEqDiff, Nat.reduceLT, Int.reduceToNat]; unfold pvM; cases negM s <;> rfl)
      · clear hS
        rintro u wl ⟨k, hk, h6, h5, h4, h0, hS⟩ ih
        have hb1 := pv_le s k
        have hb2 := pv_le s (k + 1)
        by_cases hlt : (k : Int) < s.length
        · rcases form_dig hf k hlt with ⟨rfl, hn, h45⟩ | ⟨hd, hn1⟩
          · have h45' : ((s.getD 0 0).toNat : Int) = 45 := by rw [h45]; rfl
            have hpv : pvM s 1 = pvM s 0 := by
              unfold pvM
              rw [if_pos hn, if_pos hn]
              cases s <;> simp
            (have fct := (And.intro @h6 (And.intro @h5 (And.intro @h4 (And.intro @h0 @hn)))); repeat' (first | ((with_reducible apply G.a); exact rfl) | refine G.reg fun K hK => ?_ | (with_reducible (refine hK _ _ ?_); clear hK K) | (have hk := hK; clear hk; simp (disch := first | exact dis | fail) only [push_cast, ↓reduceIte, Nat.reduceAdd, Nat.reduceLeDiff, Nat.reduceEqDiff, Nat.reduceLT, Int.reduceToNat, fct]) | (refine brO_n ?_ ?_ <;> intro hb hc <;> first | (with_reducible exact False.elim hc) | (exfalso; omega) | (simp only [hb]; clear hb)) | (refine G.cn ?_ ?_ <;> intro hc <;> first | (with_reducible exact False.elim hc) | (exfalso; omega) | skip))) <;> (try clear fct)
            (refine ih _ _ ⟨1, ?_⟩ ?_; rotate_left; (focus ((simp only [push_cast, ↓reduceIte, Nat.reduceAdd, Nat.reduceLeDiff, Nat.reduceEqDiff, Nat.reduceLT, Int.reduceToNat, toN_i, h6, h5, h4, h0, hn, hpv] <;> omega))); ((repeat' apply And.intro) <;> first | exact dj | (simp only [push_cast, ↓reduceIte, Nat.reduceAdd, Nat.reduceLeDiff, Nat.reduceEqDiff, Nat.reduceLT, Int.reduceToNat, h6, h5, h4, h0, hn, hpv] <;> omega) | skip))
          · have hps := pv_step hlt hn1
            have hdd : 48 ≤ (s.getD k 0).toNat ∧ (s.getD k 0).toNat ≤ 57 := by simpa [dgB] using hd
            cases hn : negM s
            · rw [hn] at hps hb1 hb2
              simp only [Bool.false_eq_true, if_false] at hps
              have q1 := hb1.2 rfl
              have q2 := hb2.2 rfl
              have hps2 : pvM s (k + 1) = pvM s k * 10 + (((s.getD k 0).toNat : Int) - 48) := by omega
              (have fct := (And.intro @h6 (And.intro @h5 (And.intro @h4 (And.intro @h0 @hn)))); repeat' (first | ((with_reducible apply G.a); exact rfl) | refine G.reg fun K hK => ?_ | (with_reducible (refine hK _ _ ?_); clear hK K) | (have hk := hK; clear hk; simp (disch := first | exact dis | fail) only [push_cast, ↓reduceIte, Nat.reduceAdd, Nat.reduceLeDiff, Nat.reduceEqDiff, Nat.reduceLT, Int.reduceToNat, fct]) | (refine brO_n ?_ ?_ <;> intro hb hc <;> first | (with_reducible exact False.elim hc) | (exfalso; omega) | (simp only [hb]; clear hb)) | (refine G.cn ?_ ?_ <;> intro hc <;> first | (with_reducible exact False.elim hc) | (exfalso; omega) | skip))) <;> (try clear fct)
              (refine ih _ _ ⟨k + 1, ?_⟩ ?_; rotate_left; (focus ((simp only [push_cast, ↓reduceIte, Nat.reduceAdd, Nat.reduceLeDiff, Nat.reduceEqDiff, Nat.reduceLT, Int.reduceToNat, toN_i, h6, h5, h4, h0, hn, hps2] <;> omega))); ((repeat' apply And.intro) <;> first | exact dj | (simp only [push_cast, ↓reduceIte, Nat.reduceAdd, Nat.reduceLeDiff, Nat.reduceEqDiff, Nat.reduceLT, Int.reduceToNat, h6, h5, h4, h0, hn, hps2] <;> omega) | skip))
            · rw [hn] at hps hb1 hb2
              simp only [if_true] at hps
              have q1 := hb1.1 rfl
              have q2 := hb2.1 rfl
              have hps2 : pvM s (k + 1) = pvM s k * 10 - (((s.getD k 0).toNat : Int) - 48) := by omega
              (have fct := (And.intro @h6 (And.intro @h5 (And.intro @h4 (And.intro @h0 @hn)))); repeat' (first | ((with_reducible apply G.a); exact rfl) | refine G.reg fun K hK => ?_ | (with_reducible (refine hK _ _ ?_); clear hK K) | (have hk := hK; clear hk; simp (disch := first | exact dis | fail) only [push_cast, ↓reduceIte, Nat.reduceAdd, Nat.reduceLeDiff, Nat.reduceEqDiff, Nat.reduceLT, Int.reduceToNat, fct]) | (refine brO_n ?_ ?_ <;> intro hb hc <;> first | (with_reducible exact False.elim hc) | (exfalso; omega) | (simp only [hb]; clear hb)) | (refine G.cn ?_ ?_ <;> intro hc <;> first | (with_reducible exact False.elim hc) | (exfalso; omega) | skip))) <;> (try clear fct)
              (refine ih _ _ ⟨k + 1, ?_⟩ ?_; rotate_left; (focus ((simp only [push_cast, ↓reduceIte, Nat.reduceAdd, Nat.reduceLeDiff, Nat.reduceEqDiff, Nat.reduceLT, Int.reduceToNat, toN_i, h6, h5, h4, h0, hn, hps2] <;> omega))); ((repeat' apply And.intro) <;> first | exact dj | (simp only [push_cast, ↓reduceIte, Nat.reduceAdd, Nat.reduceLeDiff, Nat.reduceEqDiff, Nat.reduceLT, Int.reduceToNat, h6, h5, h4, h0, hn, hps2] <;> omega) | skip))
        · (have fct := (And.intro @h6 (And.intro @h5 (And.intro @h4 @h0))); repeat' (first | ((with_reducible apply G.a); exact rfl) | refine G.reg fun K hK => ?_ | (with_reducible (refine hK _ _ ?_); clear hK K) | (have hk := hK; clear hk; simp (disch := first | exact dis | fail) only [push_cast, ↓reduceIte, Nat.reduceAdd, Nat.reduceLeDiff, Nat.reduceEqDiff, Nat.reduceLT, Int.reduceToNat, fct]) | (refine brO_n ?_ ?_ <;> intro hb hc <;> first | (with_reducible exact False.elim hc) | (exfalso; omega) | (simp only [hb]; clear hb)) | (refine G.cn ?_ ?_ <;> intro hc <;> first | (with_reducible exact False.elim hc) | (exfalso; omega) | skip))) <;> (try clear fct)
          (have fct := (And.intro @h6 (And.intro @h5 (And.intro @h4 @h0))); (first | refine G.r1 ?_ | refine G.r2 ?_ | refine G.r3 ?_ | refine G.r0 ?_ | refine G.d0 ?_); (try simp (disch := first | exact dis | fail) only [push_cast, ↓reduceIte, Nat.reduceAdd, Nat.reduceLeDiff, Nat.reduceEqDiff, Nat.reduceLT, Int.reduceToNat, fct]); (try clear fct))
          rw [hpe k (by omega)]
          (first | exact Sep.xt (by assumption) | exact ⟨rfl, Sep.xt (by assumption)⟩)
    · rw [if_neg hr]
      by_cases hlo : numM s < -9223372036854775808
      · rw [decide_eq_true hlo] at l1
        (have fct := (And.intro @hf @l1); repeat' (first | ((with_reducible apply G.a); exact rfl) | refine G.reg fun K hK => ?_ | (with_reducible (refine hK _ _ ?_); clear hK K) | (have hk := hK; clear hk; simp (disch := first | exact dis | fail) only [push_cast, ↓reduceIte, Nat.reduceAdd, Nat.reduceLeDiff, Nat.reduceEqDiff, Nat.reduceLT, Int.reduceToNat, fct]) | (refine brO_n ?_ ?_ <;> intro hb hc <;> first | (with_reducible exact False.elim hc) | (exfalso; omega) | (simp only [hb]; clear hb)) | (refine zcp 102 (rform_spec s _ hl) ?_; intro wb hS) | ((with_reducible (show CallK _ 103 [S s, _] _ _ _ _)); refine zcp 103 (rless_spec s [45, 57, 50, 50, 51, 51, 55, 50, 48, 51, 54, 56, 53, 52, 55, 55, 53, 56, 48, 56] _ hl (by simp)) ?_; intro wb hS) | ((with_reducible (show CallK _ 103 [_, S s] _ _ _ _)); refine zcp 103 (rless_spec [57, 50, 50, 51, 51, 55, 50, 48, 51, 54, 56, 53, 52, 55, 55, 53, 56, 48, 55] s _ (by simp) hl) ?_; intro wb hS) | (refine G.cn ?_ ?_ <;> intro hc <;> first | (with_reducible exact False.elim hc) | (exfalso; omega) | skip))) <;> (try clear fct)
        (first | refine G.r1 ?_ | refine G.r2 ?_ | refine G.r3 ?_ | refine G.r0 ?_ | refine G.d0 ?_); (try simp (disch := first | exact dis | fail) only [push_cast, ↓reduceIte, Nat.reduceAdd, Nat.reduceLeDiff, Nat.reduceEqDiff, Nat.reduceLT, Int.reduceToNat, fct])
        (first | exact Sep.xt (by assumption) | exact ⟨rfl, Sep.xt (by assumption)⟩)
      · rw [decide_eq_false hlo] at l1
        rw [decide_eq_true (by omega)] at l2
        (have fct := (And.intro @hf (And.intro @l1 @l2)); repeat' (first | ((with_reducible apply G.a); exact rfl) | refine G.reg fun K hK => ?_ | (with_reducible (refine hK _ _ ?_); clear hK K) | (have hk := hK; clear hk; simp (disch := first | exact dis | fail) only [push_cast, ↓reduceIte, Nat.reduceAdd, Nat.reduceLeDiff, Nat.reduceEqDiff, Nat.reduceLT, Int.reduceToNat, fct]) | (refine brO_n ?_ ?_ <;> intro hb hc <;> first | (with_reducible exact False.elim hc) | (exfalso; omega) | (simp only [hb]; clear hb)) | (refine zcp 102 (rform_spec s _ hl) ?_; intro wb hS) | ((with_reducible (show CallK _ 103 [S s, _] _ _ _ _)); refine zcp 103 (rless_spec s [45, 57, 50, 50, 51, 51, 55, 50, 48, 51, 54, 56, 53, 52, 55, 55, 53, 56, 48, 56] _ hl (by simp)) ?_; intro wb hS) | ((with_reducible (show CallK _ 103 [_, S s] _ _ _ _)); refine zcp 103 (rless_spec [57, 50, 50, 51, 51, 55, 50, 48, 51, 54, 56, 53, 52, 55, 55, 53, 56, 48, 55] s _ (by simp) hl) ?_; intro wb hS) | (refine G.cn ?_ ?_ <;> intro hc <;> first | (with_reducible exact False.elim hc) | (exfalso; omega) | skip))) <;> (try clear fct)
        (first | refine G.r1 ?_ | refine G.r2 ?_ | refine G.r3 ?_ | refine G.r0 ?_ | refine G.d0 ?_); (try simp (disch := first | exact dis | fail) only [push_cast, ↓reduceIte, Nat.reduceAdd, Nat.reduceLeDiff, Nat.reduceEqDiff, Nat.reduceLT, Int.reduceToNat, fct])
        (first | exact Sep.xt (by assumption) | exact ⟨rfl, Sep.xt (by assumption)⟩)
  · have hff : formM s = false := by simpa using hf
    rw [if_pos hff]
    (have fct := @hff; repeat' (first | ((with_reducible apply G.a); exact rfl) | refine G.reg fun K hK => ?_ | (with_reducible (refine hK _ _ ?_); clear hK K) | (have hk := hK; clear hk; simp (disch := first | exact dis | fail) only [push_cast, ↓reduceIte, Nat.reduceAdd, Nat.reduceLeDiff, Nat.reduceEqDiff, Nat.reduceLT, Int.reduceToNat, fct]) | (refine brO_n ?_ ?_ <;> intro hb hc <;> first | (with_reducible exact False.elim hc) | (exfalso; omega) | (simp only [hb]; clear hb)) | (refine zcp 102 (rform_spec s _ hl) ?_; intro wb hS) | ((with_reducible (show CallK _ 103 [S s, _] _ _ _ _)); refine zcp 103 (rless_spec s [45, 57, 50, 50, 51, 51, 55, 50, 48, 51, 54, 56, 53, 52, 55, 55, 53, 56, 48, 56] _ hl (by simp)) ?_; intro wb hS) | ((with_reducible (show CallK _ 103 [_, S s] _ _ _ _)); refine zcp 103 (rless_spec [57, 50, 50, 51, 51, 55, 50, 48, 51, 54, 56, 53, 52, 55, 55, 53, 56, 48, 55] s _ (by simp) hl) ?_; intro wb hS) | (refine G.cn ?_ ?_ <;> intro hc <;> first | (with_reducible exact False.elim hc) | (exfalso; omega) | skip))) <;> (try clear fct)
    (first | refine G.r1 ?_ | refine G.r2 ?_ | refine G.r3 ?_ | refine G.r0 ?_ | refine G.d0 ?_); (try simp (disch := first | exact dis | fail) only [push_cast, ↓reduceIte, Nat.reduceAdd, Nat.reduceLeDiff, Nat.reduceEqDiff, Nat.reduceLT, Int.reduceToNat, fct])
    (first | exact Sep.xt (by assumption) | exact ⟨rfl, Sep.xt (by assumption)⟩)
end Go.Proofs.YtdikpaochhacmaaGreatDoor
namespace Go.Proofs.YtdikpaochhacmaaGreatDoor
set_option linter.unusedSimpArgs false
set_option linter.unusedVariables false
attribute [local irreducible] SemK UnitK StK AlcK BslK CallK CallV Instr.box Builtin.append_ Instr.makeSlice Instr.makeMap Instr.lookup Instr.mapUpdate Instr.sliceAt convert
open Go.RowKit
def deM (s : Str) (k : Int) (nl : Bool) : Val × Int :=
  if ¬ (1 ≤ k ∧ k ≤ 3) then (⟨0, [], 0, false⟩, 22) else if nl = true ∧ s = [] then (⟨0, [], 0, false⟩, 0)
  else if k = 2 then (if (pnM s).2 ≠ 0 then (⟨0, [], 0, false⟩, (pnM s).2) else (⟨2, [], (pnM s).1, false⟩, 0))
  else if k = 3 then (if s = [116, 114, 117, 101] then (⟨3, [], 0, true⟩, 0) else if s = [102, 97, 108, 115, 101] then (⟨3, [], 0, false⟩, 0) else (⟨0, [], 0, false⟩, 19))
  else if validM s = false then (⟨0, [], 0, false⟩, 14) else if nl = false ∨ ¬ s.take 1 = [92] then (⟨1, s, 0, false⟩, 0)
  else if s.drop 1 ≠ [] ∧ ¬ (s.drop 1).take 1 = [92] then (⟨0, [], 0, false⟩, 23) else (⟨1, s.drop 1, 0, false⟩, 0)
theorem de_fin {v : Val} {n : Int} {p : Val × Int} (h : p = (v, n)) : Value.tuple #[.agg #[I v.kind, S v.s, I v.n, .bool v.b], .int .i64 n] = .tuple #[.agg #[I p.1.kind, S p.1.s, I p.1.n, .bool p.1.b], I p.2] := by rw [h]
theorem de_finR {v : Val} {n : Int} {p : Val × Int} (h : p = (v, n)) : Value.tuple #[.agg #[I v.kind, S v.s, I v.n, I (if v.b = true then 1 else 0)], .int .i64 n] = .tuple #[.agg #[I p.1.kind, S p.1.s, I p.1.n, I (if p.1.b = true then 1 else 0)], I p.2] := by rw [h]
def c38 : MC := (.seq (.reg [qq 3 (.raw (.box 76 (.tmp 1)) 0), qq 4 (.alc 78 [(.int .i64 0), (S []), (.int .i64 0), (.bool false)]), qq 5 (.mv (ki 0))]) (.seq (.seq (.reg [qq 10 (.fad 1 (.tmp 3)), qq 11 (.ld none (.tmp 10)), qq 12 (.call 65 [(.tmp 11)]), qq 13 (.un .not (.tmp 12))]) (.cond (.tmp 13) (.seq (.reg [qq 14 (.bld [(.int .i64 0), (S []), (.int .i64 0), (.bool false)] []), qn (.st 4 (.tmp 4) (.tmp 14)), qq 5 (.mv (ki 22))]) .ret) .skip)) (.seq (.seq (.reg [qq 15 (.fad 2 (.tmp 3)), qq 16 (.ld none (.tmp 15)), qm 17 16, qmt 17 18 0, qt 17 19 (.bin .eql (.tmp 18) (.const (S []))), qq 20 (.pick (.tmp 17) (.tmp 19) (kb false))]) (.cond (.tmp 20) (.seq (.reg [qq 21 (.bld [(.int .i64 0), (S []), (.int .i64 0), (.bool false)] []), qn (.st 4 (.tmp 4) (.tmp 21)), qq 5 (.mv (ki 0))]) .ret) .skip)) (.seq (.seq (.reg [qq 22 (.fad 1 (.tmp 3)), qq 23 (.ld none (.tmp 22))]) (.blk 0 (.seq (.reg [qq 25 (.bin .eql (.tmp 23) (ki 2)), qm 24 25]) (.cond (.tmp 24) (.seq (.reg [qm 27 0, qq 28 (.call 66 [(.tmp 27)]), qm 26 28, qq 29 (.ext 0 (.tmp 26)), qq 30 (.ext 1 (.tmp 26)), qm 6 29, qm 7 30]) (.seq (.seq (.reg [qm 31 7, qq 32 (.bin .neq (.tmp 31) (ki 0))]) (.cond (.tmp 32) (.seq (.reg [qq 33 (.bld [(.int .i64 0), (S []), (.int .i64 0), (.bool false)] []), qm 34 7, qn (.st 4 (.tmp 4) (.tmp 33)), qm 5 34]) .ret) .skip)) (.seq (.reg [qm 35 6, qq 36 (.call 67 [(.tmp 35)]), qn (.st 4 (.tmp 4) (.tmp 36)), qq 5 (.mv (ki 0))]) .ret))) (.seq (.reg [qq 38 (.bin .eql (.tmp 23) (ki 3)), qm 37 38]) (.cond (.tmp 37) (.seq (.seq (.reg [qm 39 0, qq 40 (.bin .neq (.tmp 39) (.const (S [116, 114, 117, 101]))), qm 41 40, qmt 41 42 0, qt 41 43 (.bin .neq (.tmp 42) (.const (S [102, 97, 108, 115, 101]))), qq 44 (.pick (.tmp 41) (.tmp 43) (kb false))]) (.cond (.tmp 44) (.seq (.reg [qq 45 (.bld [(.int .i64 0), (S []), (.int .i64 0), (.bool false)] []), qn (.st 4 (.tmp 4) (.tmp 45)), qq 5 (.mv (ki 19))]) .ret) .skip)) (.seq (.reg [qm 46 0, qq 47 (.bin .eql (.tmp 46) (.const (S [116, 114, 117, 101]))), qq 48 (.call 68 [(.tmp 47)]), qn (.st 4 (.tmp 4) (.tmp 48)), qq 5 (.mv (ki 0))]) .ret)) .skip)))))) (.seq (.seq (.reg [qm 49 0, qq 50 (.call 52 [(.tmp 49)]), qq 51 (.un .not (.tmp 50))]) (.cond (.tmp 51) (.seq (.reg [qq 52 (.bld [(.int .i64 0), (S []), (.int .i64 0), (.bool false)] []), qn (.st 4 (.tmp 4) (.tmp 52)), qq 5 (.mv (ki 14))]) .ret) .skip)) (.seq (.reg [qm 54 0, qq 55 (.call 69 [(.tmp 54), (.const (S [92]))]), qm 53 55, qq 56 (.ext 0 (.tmp 53)), qq 57 (.ext 1 (.tmp 53)), qm 8 56, qm 9 57]) (.seq (.seq (.reg [qq 58 (.fad 2 (.tmp 3)), qq 59 (.ld none (.tmp 58)), qq 60 (.un .not (.tmp 59)), qm 61 60, qmf 61 62 9, qf 61 63 (.un .not (.tmp 62)), qq 64 (.pick (.tmp 61) (kb true) (.tmp 63))]) (.cond (.tmp 64) (.seq (.reg [qm 65 0, qq 66 (.call 70 [(.tmp 65)]), qn (.st 4 (.tmp 4) (.tmp 66)), qq 5 (.mv (ki 0))]) .ret) .skip)) (.seq (.seq (.reg [qm 67 8, qq 68 (.bin .neq (.tmp 67) (.const (S []))), qm 69 68, qmt 69 70 8, qt 69 71 (.call 71 [(.tmp 70), (.const (S [92]))]), qt 69 72 (.un .not (.tmp 71)), qq 73 (.pick (.tmp 69) (.tmp 72) (kb false))]) (.cond (.tmp 73) (.seq (.reg [qq 74 (.bld [(.int .i64 0), (S []), (.int .i64 0), (.bool false)] []), qn (.st 4 (.tmp 4) (.tmp 74)), qq 5 (.mv (ki 23))]) .ret) .skip)) (.seq (.reg [qm 75 8, qq 76 (.call 70 [(.tmp 75)]), qn (.st 4 (.tmp 4) (.tmp 76)), qq 5 (.mv (ki 0))]) .ret)))))))))
theorem k38 : conv Tryz.prog 77 (Tryz.f38.body.getD .skip) = c38 := by kernel_rfl
theorem in38 {a0 a1 : Value} {w : World} {R : Value → World → Prop} (h : G Tryz.prog Tryz.f38 77 [.c c38] R (frL 0 [a0, a1]) w) : Ret Tryz.prog 38 #[a0, a1] w R := G.enter (args := [a0, a1]) Tryz.func38 (c := Tryz.f38.body.getD .skip) (by kernel_rfl) (by kernel_rfl) (by simp) k38 h
theorem dec_spec (s : Str) (nm : Str) (k : Int) (nl : Bool) (w : World) (hl : s.length ≤ 1000000) (hv : ErrV w) : Pu Tryz.prog 38 #[S s, .agg #[S nm, I k, .bool nl]] w (.tuple #[(.agg #[I (deM s k nl).1.kind, S (deM s k nl).1.s, I (deM s k nl).1.n, .bool (deM s k nl).1.b]), I (deM s k nl).2]) := by
  refine in38 ?_
  have hS := Sep.start w
  by_cases hk : 1 ≤ k ∧ k ≤ 3
  · repeat' (first | ((with_reducible apply G.a); exact rfl) | refine G.reg fun K hK => ?_ | (with_reducible (refine hK _ _ ?_); clear hK K) | (with_reducible (refine hK _ ?_); clear hK K; intro wd hxd; have hS := Sep.ext (by assumption) hxd) | ((first | have hk := hK | have hk := hK2); clear hk; simp (disch := (first | exact dis | fail)) only [push_cast, ↓reduceIte, Nat.reduceAdd, Nat.reduceLeDiff, Nat.reduceEqDiff, Nat.reduceLT, Int.reduceToNat, decide_eq_true hk]) | ((first | refine brO_mk ?_ ?_ | refine brQ_mk ?_ ?_) <;> intro hb <;> (try simp only [Bool.not_eq_true', Bool.not_eq_false'] at hb) <;> have hc := hb <;> (try simp only [hcs, reduceCtorEq] at hc) <;> (try (exfalso; omega)) <;> simp only [hb] <;> clear hb) | (refine zalc ?_; intro gb wb hS) | (refine zbsl ?_; intro gb wb hS) | ((with_reducible (show SemK _ (Instr.box _ _) _ _ _ _)); refine zbox ?_; intro gb wb hS) | ((with_reducible (show StK _ _ (Value.pointer _) _ _ _ _ _)); refine zst ?_; intro wb hS; (try simp only [sets] at hS)) | (refine zcv ?_) | (refine zcp 65 (known_spec k _) ?_; intro wb hS) | (refine zcp 66 (parse16_spec s _ hl (hv.ext hS.x)) ?_; intro wb hS) | (refine zcp 67 (int17_spec _ _) ?_; intro wb hS) | (refine zcp 68 (bool17_spec _ _) ?_; intro wb hS) | (refine zcp 70 (text17_spec _ _) ?_; intro wb hS) | (refine zcp 52 (valid_spec _ _ (by omega)) ?_; intro wb hS) | (refine zcp 69 (cpre_spec s 92 _ (by omega)) ?_; intro wb hS) | (refine zcp 71 (hpre_spec _ 92 _ (by (try simp only [apply_ite List.length]); (try split) <;> simp <;> omega)) ?_; intro wb hS) | (refine G.drt mixed fun K hK wd hxd => ?_; have hS := Sep.ext (by assumption) hxd) | with_reducible refine OT_leaf ?_ | (with_reducible refine OT_tail fun K2 hK2 => ?_) | (with_reducible (refine hK2 _ ?_); clear hK2 K2; intro wd hxd; have hS := Sep.ext (by assumption) hxd) | with_reducible refine OT_br fun K2 hK2 => ?_ | (refine hK2 _ _ ?_ ?_ <;> clear hK2 K2) | refine G.drg mixed fun K hK => ?_ | (refine G.cond (by simp only [push_cast, ↓reduceIte, Nat.reduceAdd, Nat.reduceLeDiff, Nat.reduceEqDiff, Nat.reduceLT, Int.reduceToNat, decide_eq_true hk]; rfl) ?_ ?_ <;> intro hc <;> (try simp only [hcs, reduceCtorEq] at hc) <;> (try (exfalso; omega))))
    all_goals
      (first | refine G.r1 ?_ | refine G.r2 ?_ | refine G.r3 ?_ | refine G.r0 ?_ | refine G.d0 ?_); (try simp (disch := first | exact dis | fail) only [push_cast, ↓reduceIte, Nat.reduceAdd, Nat.reduceLeDiff, Nat.reduceEqDiff, Nat.reduceLT, Int.reduceToNat, fct])
      refine ⟨?_, Sep.xt (by assumption)⟩
      clear hS
      first
        | refine de_fin (v := ⟨0, [], 0, false⟩) ?_
        | refine de_fin (v := ⟨2, [], (pnM s).1, false⟩) ?_
        | refine de_fin (v := ⟨3, [], 0, s == [116, 114, 117, 101]⟩) ?_
        | refine de_fin (v := ⟨1, s, 0, false⟩) ?_
        | refine de_fin (v := ⟨1, if s.take 1 = [92] then s.drop 1 else s, 0, false⟩) ?_
      unfold deM
      first | (simp_all; done) | grind
  · repeat' (first | ((with_reducible apply G.a); exact rfl) | refine G.reg fun K hK => ?_ | (with_reducible (refine hK _ _ ?_); clear hK K) | (with_reducible (refine hK _ ?_); clear hK K; intro wd hxd; have hS := Sep.ext (by assumption) hxd) | ((first | have hk := hK | have hk := hK2); clear hk; simp (disch := (first | exact dis | fail)) only [push_cast, ↓reduceIte, Nat.reduceAdd, Nat.reduceLeDiff, Nat.reduceEqDiff, Nat.reduceLT, Int.reduceToNat, decide_eq_false hk]) | ((first | refine brO_mk ?_ ?_ | refine brQ_mk ?_ ?_) <;> intro hb <;> (try simp only [Bool.not_eq_true', Bool.not_eq_false'] at hb) <;> have hc := hb <;> (try simp only [hcs, reduceCtorEq] at hc) <;> (try (exfalso; omega)) <;> simp only [hb] <;> clear hb) | (refine zalc ?_; intro gb wb hS) | (refine zbsl ?_; intro gb wb hS) | ((with_reducible (show SemK _ (Instr.box _ _) _ _ _ _)); refine zbox ?_; intro gb wb hS) | ((with_reducible (show StK _ _ (Value.pointer _) _ _ _ _ _)); refine zst ?_; intro wb hS; (try simp only [sets] at hS)) | (refine zcv ?_) | (refine zcp 65 (known_spec k _) ?_; intro wb hS) | (refine G.drt mixed fun K hK wd hxd => ?_; have hS := Sep.ext (by assumption) hxd) | with_reducible refine OT_leaf ?_ | (with_reducible refine OT_tail fun K2 hK2 => ?_) | (with_reducible (refine hK2 _ ?_); clear hK2 K2; intro wd hxd; have hS := Sep.ext (by assumption) hxd) | with_reducible refine OT_br fun K2 hK2 => ?_ | (refine hK2 _ _ ?_ ?_ <;> clear hK2 K2) | refine G.drg mixed fun K hK => ?_ | (refine G.cond (by simp only [push_cast, ↓reduceIte, Nat.reduceAdd, Nat.reduceLeDiff, Nat.reduceEqDiff, Nat.reduceLT, Int.reduceToNat, decide_eq_false hk]; rfl) ?_ ?_ <;> intro hc <;> (try simp only [hcs, reduceCtorEq] at hc) <;> (try (exfalso; omega))))
    (first | refine G.r1 ?_ | refine G.r2 ?_ | refine G.r3 ?_ | refine G.r0 ?_ | refine G.d0 ?_); (try simp (disch := first | exact dis | fail) only [push_cast, ↓reduceIte, Nat.reduceAdd, Nat.reduceLeDiff, Nat.reduceEqDiff, Nat.reduceLT, Int.reduceToNat, fct])
    refine ⟨de_fin (v := ⟨0, [], 0, false⟩) ?_, Sep.xt (by assumption)⟩
    unfold deM; rw [if_pos hk]
end Go.Proofs.YtdikpaochhacmaaGreatDoor
namespace Go.Proofs.YtdikpaochhacmaaGreatDoor
set_option linter.unusedSimpArgs false
set_option linter.unusedVariables false
open Go.RowKit
theorem mkd_iff (s : Str) : mkdM s = true ↔ s = [] ∨ ∃ r, s = 92 :: r := by
  simp only [mkdM, decide_eq_true_eq]
  cases s with
  | nil => simp
  | cons b r => simp
end Go.Proofs.YtdikpaochhacmaaGreatDoor
