/- Chapter 16: the reference's Parse, walked. -/
import Derived.Test.YtcphknmkjicpkaaDoorY16
namespace Go.Proofs.YtcphknmkjicpkaaDoor
set_option linter.unusedSimpArgs false
set_option linter.unusedVariables false
attribute [local irreducible] SemK UnitK StK AlcK BslK CallK Instr.box Builtin.append_ Instr.makeSlice Instr.makeMap Instr.lookup Instr.mapUpdate Instr.sliceAt convert
open Go.RowKit
/-- What the first bytes tell. -/
def pvM (s : Str) (k : Nat) : Int := if negM s = true then -(decV ((s.take k).drop 1) : Int) else decV (s.take k)
theorem decV_le (p q : Str) : decV p ≤ decV (p ++ q) := by
  have : decV (p ++ q) = decV p * 10 ^ q.length + decV q := by
    show (p ++ q).foldl _ 0 = _
    rw [List.foldl_append]
    exact decV_acc q (decV p)
  have h1 : 0 < 10 ^ q.length := Nat.pos_of_ne_zero (by simp)
  have h2 := Nat.mul_le_mul_left (decV p) h1
  omega
theorem pv_le (s : Str) (k : Nat) : (negM s = true → numM s ≤ pvM s k ∧ pvM s k ≤ 0) ∧ (negM s = false → 0 ≤ pvM s k ∧ pvM s k ≤ numM s) := by
  constructor
  · intro h
    unfold pvM numM trM
    rw [if_pos h, if_pos h, if_pos h]
    have e : s.drop 1 = (s.take k).drop 1 ++ s.drop (max k 1) := by
      by_cases hk : 1 ≤ k
      · rw [show max k 1 = k by omega]
        conv => lhs; rw [← List.take_append_drop k s]
        by_cases hs : s = []
        · subst hs; simp
        · have : 1 ≤ (s.take k).length := by
            rw [List.length_take]
            have : s.length ≠ 0 := fun e => hs (List.eq_nil_of_length_eq_zero e)
            omega
          rw [List.drop_append_of_le_length this]
      · have : k = 0 := by omega
        subst this; simp
    have := decV_le ((s.take k).drop 1) (s.drop (max k 1))
    rw [← e] at this
    omega
  · intro h
    unfold pvM numM
    rw [if_neg (by rw [h]; simp), if_neg (by rw [h]; simp), tr_pos h]
    have := decV_le (s.take k) (s.drop k)
    rw [List.take_append_drop] at this
    omega
theorem form_dig {s : Str} (h : formM s = true) (k : Nat) (hk : (k : Int) < s.length) : (k = 0 ∧ negM s = true ∧ s.getD k 0 = 45) ∨ (dgB (s.getD k 0) = true ∧ (negM s = true → 1 ≤ k)) := by
  have hc := (form_can h).1
  have ha := can_all hc
  cases hn : negM s
  · rw [tr_pos hn] at ha
    right
    refine ⟨?_, fun h => by simp at h⟩
    have hm : s.getD k 0 ∈ s := by
      rw [List.getD_eq_getElem?_getD, List.getElem?_eq_getElem (show k < s.length by omega)]
      simp
    exact List.all_eq_true.1 ha _ hm
  · have hs := tr_neg hn
    by_cases h0 : k = 0
    · left; subst h0; exact ⟨rfl, rfl, by rw [hs]; rfl⟩
    · right
      refine ⟨?_, fun _ => by omega⟩
      obtain ⟨j, rfl⟩ : ∃ j, k = j + 1 := ⟨k - 1, by omega⟩
      rw [hs] at hk ⊢
      simp only [List.length_cons] at hk
      have hm : (trM s).getD j 0 ∈ trM s := by
        rw [List.getD_eq_getElem?_getD, List.getElem?_eq_getElem (show j < (trM s).length by omega)]
        simp
      have := List.all_eq_true.1 ha _ hm
      simpa using this
theorem takeB16 (l : Str) (k : Nat) (h : (k : Int) < l.length) : l.take (k + 1) = l.take k ++ [l.getD k 0] := by
  rw [List.take_succ_eq_append_getElem (by omega)]
  simp [List.getD, List.getElem?_eq_getElem (show k < l.length by omega)]
theorem pv_step {s : Str} {k : Nat} (hk : (k : Int) < s.length) (hn : negM s = true → 1 ≤ k) : pvM s (k + 1) = if negM s = true then pvM s k * 10 - ((s.getD k 0).toNat - 48 : Nat) else pvM s k * 10 + ((s.getD k 0).toNat - 48 : Nat) := by
  unfold pvM
  rw [takeB16 s k hk]
  cases h : negM s
  · simp only [Bool.false_eq_true, if_false]
    rw [decV_app]; omega
  · simp only [if_true]
    have : 1 ≤ (s.take k).length := by rw [List.length_take]; have := hn h; omega
    rw [List.drop_append_of_le_length this, decV_app]; omega
theorem pv_end (s : Str) (k : Nat) (h : s.length ≤ k) : pvM s k = numM s := by
  unfold pvM numM trM
  rw [List.take_of_length_le h]
  cases negM s <;> simp
theorem form_min : formM [45, 57, 50, 50, 51, 51, 55, 50, 48, 51, 54, 56, 53, 52, 55, 55, 53, 56, 48, 56] = true ∧ numM [45, 57, 50, 50, 51, 51, 55, 50, 48, 51, 54, 56, 53, 52, 55, 55, 53, 56, 48, 56] = -9223372036854775808 := by decide +kernel
theorem form_max : formM [57, 50, 50, 51, 51, 55, 50, 48, 51, 54, 56, 53, 52, 55, 55, 53, 56, 48, 55] = true ∧ numM [57, 50, 50, 51, 51, 55, 50, 48, 51, 54, 56, 53, 52, 55, 55, 53, 56, 48, 55] = 9223372036854775807 := by decide +kernel
def c12l1 : MC := (.seq (.seq (.reg [qm 19 6, qm 20 0, qq 21 (.lenS (.tmp 20)), qq 22 (.bin .lss (.tmp 19) (.tmp 21))]) (.cond (.tmp 22) .skip (.exit 0))) (.seq (.blk 1 (.seq (.seq (.reg [qm 25 0, qm 26 6, qq 27 (.idxS (.tmp 25) (.tmp 26)), qq 28 (.bin .eql (.tmp 27) (.const (.int .u8 45)))]) (.cond (.tmp 28) (.exit 1) .skip)) (.seq (.reg [qm 29 5]) (.cond (.tmp 29) (.reg [qm 30 4, qq 31 (.bin .mul (.tmp 30) (ki 10)), qm 32 0, qm 33 6, qq 34 (.idxS (.tmp 32) (.tmp 33)), qq 35 (.bin .sub (.tmp 34) (.const (.int .u8 48))), qq 36 (.cvi .i64 (.tmp 35)), qq 37 (.bin .sub (.tmp 31) (.tmp 36)), qm 4 37]) (.reg [qm 38 4, qq 39 (.bin .mul (.tmp 38) (ki 10)), qm 40 0, qm 41 6, qq 42 (.idxS (.tmp 40) (.tmp 41)), qq 43 (.bin .sub (.tmp 42) (.const (.int .u8 48))), qq 44 (.cvi .i64 (.tmp 43)), qq 45 (.bin .add (.tmp 39) (.tmp 44)), qm 4 45]))))) (.reg [qm 23 6, qq 24 (.bin .add (.tmp 23) (ki 1)), qm 6 24])))
def c12 : MC := (.seq (.reg [qq 2 (.mv (ki 0)), qq 3 (.mv (ki 0))]) (.seq (.seq (.reg [qm 7 0, qq 8 (.call 14 [(.tmp 7)]), qq 9 (.un .not (.tmp 8))]) (.cond (.tmp 9) (.seq (.reg [qq 2 (.mv (ki 0)), qq 3 (.mv (ki 17))]) .ret) .skip)) (.seq (.seq (.reg [qm 10 0, qq 11 (.call 18 [(.tmp 10), (.const (S [45, 57, 50, 50, 51, 51, 55, 50, 48, 51, 54, 56, 53, 52, 55, 55, 53, 56, 48, 56]))]), qm 12 11, qmf 12 13 0, qf 12 14 (.call 18 [(.const (S [57, 50, 50, 51, 51, 55, 50, 48, 51, 54, 56, 53, 52, 55, 55, 53, 56, 48, 55])), (.tmp 13)]), qq 15 (.pick (.tmp 12) (kb true) (.tmp 14))]) (.cond (.tmp 15) (.seq (.reg [qq 2 (.mv (ki 0)), qq 3 (.mv (ki 18))]) .ret) .skip)) (.seq (.reg [qq 4 (.mv (ki 0))]) (.seq (.reg [qm 16 0, qq 17 (.idxS (.tmp 16) (ki 0)), qq 18 (.bin .eql (.tmp 17) (.const (.int .u8 45))), qm 5 18]) (.seq (.seq (.reg [qq 6 (.mv (ki 0))]) (.blk 0 (.loop c12l1))) (.seq (.reg [qm 46 4, qm 2 46, qq 3 (.mv (ki 0))]) .ret)))))))
theorem k12 : conv Tryd.prog 47 (Tryd.f12.body.getD .skip) = c12 := by kernel_rfl
theorem in12 {a0 : Value} {w : World} {R : Value → World → Prop} (h : G Tryd.prog Tryd.f12 47 [.c c12] R (frL 0 [a0]) w) : Ret Tryd.prog 12 #[a0] w R := G.enter (args := [a0]) Tryd.func12 (c := Tryd.f12.body.getD .skip) (by kernel_rfl) (by kernel_rfl) (by simp) k12 h
theorem rparse16_spec (s : Str) (w : World) (hl : s.length ≤ 1000000) : Pu Tryd.prog 12 #[S s] w (.tuple #[I (parM s).1, I (parM s).2]) := by
  refine in12 ?_
  have hS := Sep.start w
  unfold parM
  by_cases hf : formM s = true
  · rw [if_neg (by rw [hf]; simp)]
    have l1 := less_num hf form_min.1
    have l2 := less_num form_max.1 hf
    rw [form_min.2] at l1
    rw [form_max.2] at l2
    have hnn := form_nn hf
    have hna := neg_at hnn
    by_cases hr : -9223372036854775808 ≤ numM s ∧ numM s ≤ 9223372036854775807
    · rw [if_pos hr]
      rw [decide_eq_false (by omega)] at l1 l2
      have hpe := pv_end s
      repeat' (first | refine G.seq ?_ | refine G.blk ?_ | refine G.endb ?_ | refine G.skip ?_ | refine G.exit rfl ?_ | refine G.reg fun K hK => ?_ | (with_reducible (refine hK _ _ ?_); clear hK K) | (with_reducible (refine hK _ ?_); clear hK K; intro wd hxd; have hS := Sep.ext (by assumption) hxd) | (have hk := hK; clear hk; simp (disch := (first | exact dis | fail)) only [push_cast, ↓reduceIte, Nat.reduceAdd, Nat.reduceLeDiff, Nat.reduceEqDiff, Nat.reduceLT, Int.reduceToNat, hf, l1, l2, hna]) | ((first | refine brO_mk ?_ ?_ | refine brQ_mk ?_ ?_) <;> intro hb <;> (try simp only [Bool.not_eq_true', Bool.not_eq_false'] at hb) <;> have hc := hb <;> (try simp only [hcs, reduceCtorEq] at hc) <;> (try (exfalso; omega)) <;> simp only [hb] <;> clear hb) | (refine zalc ?_; intro gb wb hS) | (refine zbsl ?_; intro gb wb hS) | ((with_reducible (show SemK _ (Instr.box _ _) _ _ _ _)); refine zbox ?_; intro gb wb hS) | ((with_reducible (show StK _ _ (Value.pointer _) _ _ _ _ _)); refine zst ?_; intro wb hS; (try simp only [sets] at hS)) | (refine zcp 14 (rform_spec s _ hl) ?_; intro wb hS) | ((with_reducible (show CallK _ 18 [S s, _] _ _ _ _)); refine zcp 18 (rless_spec s [45, 57, 50, 50, 51, 51, 55, 50, 48, 51, 54, 56, 53, 52, 55, 55, 53, 56, 48, 56] _ hl (by simp)) ?_; intro wb hS) | ((with_reducible (show CallK _ 18 [_, S s] _ _ _ _)); refine zcp 18 (rless_spec [57, 50, 50, 51, 51, 55, 50, 48, 51, 54, 56, 53, 52, 55, 55, 53, 56, 48, 55] s _ (by simp) hl) ?_; intro wb hS) | (refine G.drt mixed fun K hK wd hxd => ?_; have hS := Sep.ext (by assumption) hxd) | with_reducible refine OT_leaf ?_ | (with_reducible refine OT_tail fun K2 hK2 => ?_) | (with_reducible (refine hK2 _ ?_); clear hK2 K2; intro wd hxd; have hS := Sep.ext (by assumption) hxd) | (have hk := hK2; clear hk; simp (disch := (first | exact dis | fail)) only [push_cast, ↓reduceIte, Nat.reduceAdd, Nat.reduceLeDiff, Nat.reduceEqDiff, Nat.reduceLT, Int.reduceToNat, hf, l1, l2, hna]) | with_reducible refine OT_br fun K2 hK2 => ?_ | (refine hK2 _ _ ?_ ?_ <;> clear hK2 K2) | refine G.drg mixed fun K hK => ?_ | (refine G.cond (by simp only [push_cast, ↓reduceIte, Nat.reduceAdd, Nat.reduceLeDiff, Nat.reduceEqDiff, Nat.reduceLT, Int.reduceToNat, hf, l1, l2, hna]; rfl) ?_ ?_ <;> intro hc <;> (try simp only [hcs, reduceCtorEq] at hc) <;> (try (exfalso; omega))))
      refine G.loop (fun r w' => ∃ k : Nat, k ≤ s.length ∧ r 6 = I k ∧ r 5 = .bool (negM s) ∧ r 4 = I (pvM s k) ∧ r 0 = S s ∧ Sep w w' []) (fun r _ => s.length - toN (r 6)) ?_ ?_
      · refine ⟨0, ?_⟩
        ((repeat' apply And.intro) <;> first | exact dj | (simp only [push_cast, ↓reduceIte, Nat.reduceAdd, Nat.reduceLeDiff, Nat.reduceEqDiff, Nat.reduceLT, Int.reduceToNat, hna] <;> omega) | skip)
        all_goals (simp only [push_cast, ↓reduceIte, Nat.reduceAdd, Nat.reduceLeDiff, Nat.reduceEqDiff, Nat.reduceLT, Int.reduceToNat]; unfold pvM; cases negM s <;> rfl)
      · clear hS
        rintro u wl ⟨k, hk, h6, h5, h4, h0, hS⟩ ih
        have hb1 := pv_le s k
        have hb2 := pv_le s (k + 1)
        by_cases hlt : (k : Int) < s.length
        · rcases form_dig hf k hlt with ⟨rfl, hn, h45⟩ | ⟨hd, hn1⟩
          · have h45' : ((s.getD 0 0).toNat : Int) = 45 := by rw [h45]; rfl
            have hpv : pvM s 1 = pvM s 0 := by
              unfold pvM
              rw [if_pos hn, if_pos hn]
              cases s <;> simp
            repeat' (first | refine G.seq ?_ | refine G.blk ?_ | refine G.endb ?_ | refine G.skip ?_ | refine G.exit rfl ?_ | refine G.reg fun K hK => ?_ | (with_reducible (refine hK _ _ ?_); clear hK K) | (with_reducible (refine hK _ ?_); clear hK K; intro wd hxd; have hS := Sep.ext (by assumption) hxd) | (have hk := hK; clear hk; simp (disch := (first | exact dis | fail)) only [push_cast, ↓reduceIte, Nat.reduceAdd, Nat.reduceLeDiff, Nat.reduceEqDiff, Nat.reduceLT, Int.reduceToNat, h6, h5, h4, h0, hn]) | ((first | refine brO_mk ?_ ?_ | refine brQ_mk ?_ ?_) <;> intro hb <;> (try simp only [Bool.not_eq_true', Bool.not_eq_false'] at hb) <;> have hc := hb <;> (try simp only [hcs, reduceCtorEq] at hc) <;> (try (exfalso; omega)) <;> simp only [hb] <;> clear hb) | (refine zalc ?_; intro gb wb hS) | (refine zbsl ?_; intro gb wb hS) | ((with_reducible (show SemK _ (Instr.box _ _) _ _ _ _)); refine zbox ?_; intro gb wb hS) | ((with_reducible (show StK _ _ (Value.pointer _) _ _ _ _ _)); refine zst ?_; intro wb hS; (try simp only [sets] at hS))  | (refine G.drt mixed fun K hK wd hxd => ?_; have hS := Sep.ext (by assumption) hxd) | with_reducible refine OT_leaf ?_ | (with_reducible refine OT_tail fun K2 hK2 => ?_) | (with_reducible (refine hK2 _ ?_); clear hK2 K2; intro wd hxd; have hS := Sep.ext (by assumption) hxd) | (have hk := hK2; clear hk; simp (disch := (first | exact dis | fail)) only [push_cast, ↓reduceIte, Nat.reduceAdd, Nat.reduceLeDiff, Nat.reduceEqDiff, Nat.reduceLT, Int.reduceToNat, h6, h5, h4, h0, hn]) | with_reducible refine OT_br fun K2 hK2 => ?_ | (refine hK2 _ _ ?_ ?_ <;> clear hK2 K2) | refine G.drg mixed fun K hK => ?_ | (refine G.cond (by simp only [push_cast, ↓reduceIte, Nat.reduceAdd, Nat.reduceLeDiff, Nat.reduceEqDiff, Nat.reduceLT, Int.reduceToNat, h6, h5, h4, h0, hn]; rfl) ?_ ?_ <;> intro hc <;> (try simp only [hcs, reduceCtorEq] at hc) <;> (try (exfalso; omega))))
            (refine ih _ _ ⟨1, ?_⟩ ?_; rotate_left; (focus ((simp only [push_cast, ↓reduceIte, Nat.reduceAdd, Nat.reduceLeDiff, Nat.reduceEqDiff, Nat.reduceLT, Int.reduceToNat, toN_i, h6, h5, h4, h0, hn, hpv] <;> omega))); ((repeat' apply And.intro) <;> first | exact dj | (simp only [push_cast, ↓reduceIte, Nat.reduceAdd, Nat.reduceLeDiff, Nat.reduceEqDiff, Nat.reduceLT, Int.reduceToNat, h6, h5, h4, h0, hn, hpv] <;> omega) | skip))
          · have hps := pv_step hlt hn1
            have hdd : 48 ≤ (s.getD k 0).toNat ∧ (s.getD k 0).toNat ≤ 57 := by simpa [dgB] using hd
            cases hn : negM s
            · rw [hn] at hps hb1 hb2
              simp only [Bool.false_eq_true, if_false] at hps
              have q1 := hb1.2 rfl
              have q2 := hb2.2 rfl
              have hps2 : pvM s (k + 1) = pvM s k * 10 + (((s.getD k 0).toNat : Int) - 48) := by omega
              repeat' (first | refine G.seq ?_ | refine G.blk ?_ | refine G.endb ?_ | refine G.skip ?_ | refine G.exit rfl ?_ | refine G.reg fun K hK => ?_ | (with_reducible (refine hK _ _ ?_); clear hK K) | (with_reducible (refine hK _ ?_); clear hK K; intro wd hxd; have hS := Sep.ext (by assumption) hxd) | (have hk := hK; clear hk; simp (disch := (first | exact dis | fail)) only [push_cast, ↓reduceIte, Nat.reduceAdd, Nat.reduceLeDiff, Nat.reduceEqDiff, Nat.reduceLT, Int.reduceToNat, h6, h5, h4, h0, hn]) | ((first | refine brO_mk ?_ ?_ | refine brQ_mk ?_ ?_) <;> intro hb <;> (try simp only [Bool.not_eq_true', Bool.not_eq_false'] at hb) <;> have hc := hb <;> (try simp only [hcs, reduceCtorEq] at hc) <;> (try (exfalso; omega)) <;> simp only [hb] <;> clear hb) | (refine zalc ?_; intro gb wb hS) | (refine zbsl ?_; intro gb wb hS) | ((with_reducible (show SemK _ (Instr.box _ _) _ _ _ _)); refine zbox ?_; intro gb wb hS) | ((with_reducible (show StK _ _ (Value.pointer _) _ _ _ _ _)); refine zst ?_; intro wb hS; (try simp only [sets] at hS))  | (refine G.drt mixed fun K hK wd hxd => ?_; have hS := Sep.ext (by assumption) hxd) | with_reducible refine OT_leaf ?_ | (with_reducible refine OT_tail fun K2 hK2 => ?_) | (with_reducible (refine hK2 _ ?_); clear hK2 K2; intro wd hxd; have hS := Sep.ext (by assumption) hxd) | (have hk := hK2; clear hk; simp (disch := (first | exact dis | fail)) only [push_cast, ↓reduceIte, Nat.reduceAdd, Nat.reduceLeDiff, Nat.reduceEqDiff, Nat.reduceLT, Int.reduceToNat, h6, h5, h4, h0, hn]) | with_reducible refine OT_br fun K2 hK2 => ?_ | (refine hK2 _ _ ?_ ?_ <;> clear hK2 K2) | refine G.drg mixed fun K hK => ?_ | (refine G.cond (by simp only [push_cast, ↓reduceIte, Nat.reduceAdd, Nat.reduceLeDiff, Nat.reduceEqDiff, Nat.reduceLT, Int.reduceToNat, h6, h5, h4, h0, hn]; rfl) ?_ ?_ <;> intro hc <;> (try simp only [hcs, reduceCtorEq] at hc) <;> (try (exfalso; omega))))
              (refine ih _ _ ⟨k + 1, ?_⟩ ?_; rotate_left; (focus ((simp only [push_cast, ↓reduceIte, Nat.reduceAdd, Nat.reduceLeDiff, Nat.reduceEqDiff, Nat.reduceLT, Int.reduceToNat, toN_i, h6, h5, h4, h0, hn, hps2] <;> omega))); ((repeat' apply And.intro) <;> first | exact dj | (simp only [push_cast, ↓reduceIte, Nat.reduceAdd, Nat.reduceLeDiff, Nat.reduceEqDiff, Nat.reduceLT, Int.reduceToNat, h6, h5, h4, h0, hn, hps2] <;> omega) | skip))
            · rw [hn] at hps hb1 hb2
              simp only [if_true] at hps
              have q1 := hb1.1 rfl
              have q2 := hb2.1 rfl
              have hps2 : pvM s (k + 1) = pvM s k * 10 - (((s.getD k 0).toNat : Int) - 48) := by omega
              repeat' (first | refine G.seq ?_ | refine G.blk ?_ | refine G.endb ?_ | refine G.skip ?_ | refine G.exit rfl ?_ | refine G.reg fun K hK => ?_ | (with_reducible (refine hK _ _ ?_); clear hK K) | (with_reducible (refine hK _ ?_); clear hK K; intro wd hxd; have hS := Sep.ext (by assumption) hxd) | (have hk := hK; clear hk; simp (disch := (first | exact dis | fail)) only [push_cast, ↓reduceIte, Nat.reduceAdd, Nat.reduceLeDiff, Nat.reduceEqDiff, Nat.reduceLT, Int.reduceToNat, h6, h5, h4, h0, hn]) | ((first | refine brO_mk ?_ ?_ | refine brQ_mk ?_ ?_) <;> intro hb <;> (try simp only [Bool.not_eq_true', Bool.not_eq_false'] at hb) <;> have hc := hb <;> (try simp only [hcs, reduceCtorEq] at hc) <;> (try (exfalso; omega)) <;> simp only [hb] <;> clear hb) | (refine zalc ?_; intro gb wb hS) | (refine zbsl ?_; intro gb wb hS) | ((with_reducible (show SemK _ (Instr.box _ _) _ _ _ _)); refine zbox ?_; intro gb wb hS) | ((with_reducible (show StK _ _ (Value.pointer _) _ _ _ _ _)); refine zst ?_; intro wb hS; (try simp only [sets] at hS))  | (refine G.drt mixed fun K hK wd hxd => ?_; have hS := Sep.ext (by assumption) hxd) | with_reducible refine OT_leaf ?_ | (with_reducible refine OT_tail fun K2 hK2 => ?_) | (with_reducible (refine hK2 _ ?_); clear hK2 K2; intro wd hxd; have hS := Sep.ext (by assumption) hxd) | (have hk := hK2; clear hk; simp (disch := (first | exact dis | fail)) only [push_cast, ↓reduceIte, Nat.reduceAdd, Nat.reduceLeDiff, Nat.reduceEqDiff, Nat.reduceLT, Int.reduceToNat, h6, h5, h4, h0, hn]) | with_reducible refine OT_br fun K2 hK2 => ?_ | (refine hK2 _ _ ?_ ?_ <;> clear hK2 K2) | refine G.drg mixed fun K hK => ?_ | (refine G.cond (by simp only [push_cast, ↓reduceIte, Nat.reduceAdd, Nat.reduceLeDiff, Nat.reduceEqDiff, Nat.reduceLT, Int.reduceToNat, h6, h5, h4, h0, hn]; rfl) ?_ ?_ <;> intro hc <;> (try simp only [hcs, reduceCtorEq] at hc) <;> (try (exfalso; omega))))
              (refine ih _ _ ⟨k + 1, ?_⟩ ?_; rotate_left; (focus ((simp only [push_cast, ↓reduceIte, Nat.reduceAdd, Nat.reduceLeDiff, Nat.reduceEqDiff, Nat.reduceLT, Int.reduceToNat, toN_i, h6, h5, h4, h0, hn, hps2] <;> omega))); ((repeat' apply And.intro) <;> first | exact dj | (simp only [push_cast, ↓reduceIte, Nat.reduceAdd, Nat.reduceLeDiff, Nat.reduceEqDiff, Nat.reduceLT, Int.reduceToNat, h6, h5, h4, h0, hn, hps2] <;> omega) | skip))
        · repeat' (first | refine G.seq ?_ | refine G.blk ?_ | refine G.endb ?_ | refine G.skip ?_ | refine G.exit rfl ?_ | refine G.reg fun K hK => ?_ | (with_reducible (refine hK _ _ ?_); clear hK K) | (with_reducible (refine hK _ ?_); clear hK K; intro wd hxd; have hS := Sep.ext (by assumption) hxd) | (have hk := hK; clear hk; simp (disch := (first | exact dis | fail)) only [push_cast, ↓reduceIte, Nat.reduceAdd, Nat.reduceLeDiff, Nat.reduceEqDiff, Nat.reduceLT, Int.reduceToNat, h6, h5, h4, h0]) | ((first | refine brO_mk ?_ ?_ | refine brQ_mk ?_ ?_) <;> intro hb <;> (try simp only [Bool.not_eq_true', Bool.not_eq_false'] at hb) <;> have hc := hb <;> (try simp only [hcs, reduceCtorEq] at hc) <;> (try (exfalso; omega)) <;> simp only [hb] <;> clear hb) | (refine zalc ?_; intro gb wb hS) | (refine zbsl ?_; intro gb wb hS) | ((with_reducible (show SemK _ (Instr.box _ _) _ _ _ _)); refine zbox ?_; intro gb wb hS) | ((with_reducible (show StK _ _ (Value.pointer _) _ _ _ _ _)); refine zst ?_; intro wb hS; (try simp only [sets] at hS))  | (refine G.drt mixed fun K hK wd hxd => ?_; have hS := Sep.ext (by assumption) hxd) | with_reducible refine OT_leaf ?_ | (with_reducible refine OT_tail fun K2 hK2 => ?_) | (with_reducible (refine hK2 _ ?_); clear hK2 K2; intro wd hxd; have hS := Sep.ext (by assumption) hxd) | (have hk := hK2; clear hk; simp (disch := (first | exact dis | fail)) only [push_cast, ↓reduceIte, Nat.reduceAdd, Nat.reduceLeDiff, Nat.reduceEqDiff, Nat.reduceLT, Int.reduceToNat, h6, h5, h4, h0]) | with_reducible refine OT_br fun K2 hK2 => ?_ | (refine hK2 _ _ ?_ ?_ <;> clear hK2 K2) | refine G.drg mixed fun K hK => ?_ | (refine G.cond (by simp only [push_cast, ↓reduceIte, Nat.reduceAdd, Nat.reduceLeDiff, Nat.reduceEqDiff, Nat.reduceLT, Int.reduceToNat, h6, h5, h4, h0]; rfl) ?_ ?_ <;> intro hc <;> (try simp only [hcs, reduceCtorEq] at hc) <;> (try (exfalso; omega))))
          ((first | apply G.rv1 rfl | apply G.rv2 rfl | apply G.rv3 rfl | apply G.ret0 rfl) <;> (first | exact RV.tmp | exact zag (by simp only [push_cast, ↓reduceIte, Nat.reduceAdd, Nat.reduceLeDiff, Nat.reduceEqDiff, Nat.reduceLT, Int.reduceToNat, h6, h5, h4, h0]; rfl) | skip)); (try simp (disch := (first | exact dis | fail)) only [push_cast, ↓reduceIte, Nat.reduceAdd, Nat.reduceLeDiff, Nat.reduceEqDiff, Nat.reduceLT, Int.reduceToNat, h6, h5, h4, h0])
          rw [hpe k (by omega)]
          (first | exact Sep.xt (by assumption) | exact ⟨rfl, Sep.xt (by assumption)⟩)
    · rw [if_neg hr]
      by_cases hlo : numM s < -9223372036854775808
      · rw [decide_eq_true hlo] at l1
        repeat' (first | refine G.seq ?_ | refine G.blk ?_ | refine G.endb ?_ | refine G.skip ?_ | refine G.exit rfl ?_ | refine G.reg fun K hK => ?_ | (with_reducible (refine hK _ _ ?_); clear hK K) | (with_reducible (refine hK _ ?_); clear hK K; intro wd hxd; have hS := Sep.ext (by assumption) hxd) | (have hk := hK; clear hk; simp (disch := (first | exact dis | fail)) only [push_cast, ↓reduceIte, Nat.reduceAdd, Nat.reduceLeDiff, Nat.reduceEqDiff, Nat.reduceLT, Int.reduceToNat, hf, l1]) | ((first | refine brO_mk ?_ ?_ | refine brQ_mk ?_ ?_) <;> intro hb <;> (try simp only [Bool.not_eq_true', Bool.not_eq_false'] at hb) <;> have hc := hb <;> (try simp only [hcs, reduceCtorEq] at hc) <;> (try (exfalso; omega)) <;> simp only [hb] <;> clear hb) | (refine zalc ?_; intro gb wb hS) | (refine zbsl ?_; intro gb wb hS) | ((with_reducible (show SemK _ (Instr.box _ _) _ _ _ _)); refine zbox ?_; intro gb wb hS) | ((with_reducible (show StK _ _ (Value.pointer _) _ _ _ _ _)); refine zst ?_; intro wb hS; (try simp only [sets] at hS)) | (refine zcp 14 (rform_spec s _ hl) ?_; intro wb hS) | ((with_reducible (show CallK _ 18 [S s, _] _ _ _ _)); refine zcp 18 (rless_spec s [45, 57, 50, 50, 51, 51, 55, 50, 48, 51, 54, 56, 53, 52, 55, 55, 53, 56, 48, 56] _ hl (by simp)) ?_; intro wb hS) | ((with_reducible (show CallK _ 18 [_, S s] _ _ _ _)); refine zcp 18 (rless_spec [57, 50, 50, 51, 51, 55, 50, 48, 51, 54, 56, 53, 52, 55, 55, 53, 56, 48, 55] s _ (by simp) hl) ?_; intro wb hS) | (refine G.drt mixed fun K hK wd hxd => ?_; have hS := Sep.ext (by assumption) hxd) | with_reducible refine OT_leaf ?_ | (with_reducible refine OT_tail fun K2 hK2 => ?_) | (with_reducible (refine hK2 _ ?_); clear hK2 K2; intro wd hxd; have hS := Sep.ext (by assumption) hxd) | (have hk := hK2; clear hk; simp (disch := (first | exact dis | fail)) only [push_cast, ↓reduceIte, Nat.reduceAdd, Nat.reduceLeDiff, Nat.reduceEqDiff, Nat.reduceLT, Int.reduceToNat, hf, l1]) | with_reducible refine OT_br fun K2 hK2 => ?_ | (refine hK2 _ _ ?_ ?_ <;> clear hK2 K2) | refine G.drg mixed fun K hK => ?_ | (refine G.cond (by simp only [push_cast, ↓reduceIte, Nat.reduceAdd, Nat.reduceLeDiff, Nat.reduceEqDiff, Nat.reduceLT, Int.reduceToNat, hf, l1]; rfl) ?_ ?_ <;> intro hc <;> (try simp only [hcs, reduceCtorEq] at hc) <;> (try (exfalso; omega))))
        ((first | apply G.rv1 rfl | apply G.rv2 rfl | apply G.rv3 rfl | apply G.ret0 rfl) <;> (first | exact RV.tmp | exact zag (by simp only [push_cast, ↓reduceIte, Nat.reduceAdd, Nat.reduceLeDiff, Nat.reduceEqDiff, Nat.reduceLT, Int.reduceToNat]; rfl) | skip)); (try simp (disch := (first | exact dis | fail)) only [push_cast, ↓reduceIte, Nat.reduceAdd, Nat.reduceLeDiff, Nat.reduceEqDiff, Nat.reduceLT, Int.reduceToNat])
        (first | exact Sep.xt (by assumption) | exact ⟨rfl, Sep.xt (by assumption)⟩)
      · rw [decide_eq_false hlo] at l1
        rw [decide_eq_true (by omega)] at l2
        repeat' (first | refine G.seq ?_ | refine G.blk ?_ | refine G.endb ?_ | refine G.skip ?_ | refine G.exit rfl ?_ | refine G.reg fun K hK => ?_ | (with_reducible (refine hK _ _ ?_); clear hK K) | (with_reducible (refine hK _ ?_); clear hK K; intro wd hxd; have hS := Sep.ext (by assumption) hxd) | (have hk := hK; clear hk; simp (disch := (first | exact dis | fail)) only [push_cast, ↓reduceIte, Nat.reduceAdd, Nat.reduceLeDiff, Nat.reduceEqDiff, Nat.reduceLT, Int.reduceToNat, hf, l1, l2]) | ((first | refine brO_mk ?_ ?_ | refine brQ_mk ?_ ?_) <;> intro hb <;> (try simp only [Bool.not_eq_true', Bool.not_eq_false'] at hb) <;> have hc := hb <;> (try simp only [hcs, reduceCtorEq] at hc) <;> (try (exfalso; omega)) <;> simp only [hb] <;> clear hb) | (refine zalc ?_; intro gb wb hS) | (refine zbsl ?_; intro gb wb hS) | ((with_reducible (show SemK _ (Instr.box _ _) _ _ _ _)); refine zbox ?_; intro gb wb hS) | ((with_reducible (show StK _ _ (Value.pointer _) _ _ _ _ _)); refine zst ?_; intro wb hS; (try simp only [sets] at hS)) | (refine zcp 14 (rform_spec s _ hl) ?_; intro wb hS) | ((with_reducible (show CallK _ 18 [S s, _] _ _ _ _)); refine zcp 18 (rless_spec s [45, 57, 50, 50, 51, 51, 55, 50, 48, 51, 54, 56, 53, 52, 55, 55, 53, 56, 48, 56] _ hl (by simp)) ?_; intro wb hS) | ((with_reducible (show CallK _ 18 [_, S s] _ _ _ _)); refine zcp 18 (rless_spec [57, 50, 50, 51, 51, 55, 50, 48, 51, 54, 56, 53, 52, 55, 55, 53, 56, 48, 55] s _ (by simp) hl) ?_; intro wb hS) | (refine G.drt mixed fun K hK wd hxd => ?_; have hS := Sep.ext (by assumption) hxd) | with_reducible refine OT_leaf ?_ | (with_reducible refine OT_tail fun K2 hK2 => ?_) | (with_reducible (refine hK2 _ ?_); clear hK2 K2; intro wd hxd; have hS := Sep.ext (by assumption) hxd) | (have hk := hK2; clear hk; simp (disch := (first | exact dis | fail)) only [push_cast, ↓reduceIte, Nat.reduceAdd, Nat.reduceLeDiff, Nat.reduceEqDiff, Nat.reduceLT, Int.reduceToNat, hf, l1, l2]) | with_reducible refine OT_br fun K2 hK2 => ?_ | (refine hK2 _ _ ?_ ?_ <;> clear hK2 K2) | refine G.drg mixed fun K hK => ?_ | (refine G.cond (by simp only [push_cast, ↓reduceIte, Nat.reduceAdd, Nat.reduceLeDiff, Nat.reduceEqDiff, Nat.reduceLT, Int.reduceToNat, hf, l1, l2]; rfl) ?_ ?_ <;> intro hc <;> (try simp only [hcs, reduceCtorEq] at hc) <;> (try (exfalso; omega))))
        ((first | apply G.rv1 rfl | apply G.rv2 rfl | apply G.rv3 rfl | apply G.ret0 rfl) <;> (first | exact RV.tmp | exact zag (by simp only [push_cast, ↓reduceIte, Nat.reduceAdd, Nat.reduceLeDiff, Nat.reduceEqDiff, Nat.reduceLT, Int.reduceToNat]; rfl) | skip)); (try simp (disch := (first | exact dis | fail)) only [push_cast, ↓reduceIte, Nat.reduceAdd, Nat.reduceLeDiff, Nat.reduceEqDiff, Nat.reduceLT, Int.reduceToNat])
        (first | exact Sep.xt (by assumption) | exact ⟨rfl, Sep.xt (by assumption)⟩)
  · have hff : formM s = false := by simpa using hf
    rw [if_pos hff]
    repeat' (first | refine G.seq ?_ | refine G.blk ?_ | refine G.endb ?_ | refine G.skip ?_ | refine G.exit rfl ?_ | refine G.reg fun K hK => ?_ | (with_reducible (refine hK _ _ ?_); clear hK K) | (with_reducible (refine hK _ ?_); clear hK K; intro wd hxd; have hS := Sep.ext (by assumption) hxd) | (have hk := hK; clear hk; simp (disch := (first | exact dis | fail)) only [push_cast, ↓reduceIte, Nat.reduceAdd, Nat.reduceLeDiff, Nat.reduceEqDiff, Nat.reduceLT, Int.reduceToNat, hff]) | ((first | refine brO_mk ?_ ?_ | refine brQ_mk ?_ ?_) <;> intro hb <;> (try simp only [Bool.not_eq_true', Bool.not_eq_false'] at hb) <;> have hc := hb <;> (try simp only [hcs, reduceCtorEq] at hc) <;> (try (exfalso; omega)) <;> simp only [hb] <;> clear hb) | (refine zalc ?_; intro gb wb hS) | (refine zbsl ?_; intro gb wb hS) | ((with_reducible (show SemK _ (Instr.box _ _) _ _ _ _)); refine zbox ?_; intro gb wb hS) | ((with_reducible (show StK _ _ (Value.pointer _) _ _ _ _ _)); refine zst ?_; intro wb hS; (try simp only [sets] at hS)) | (refine zcp 14 (rform_spec s _ hl) ?_; intro wb hS) | ((with_reducible (show CallK _ 18 [S s, _] _ _ _ _)); refine zcp 18 (rless_spec s [45, 57, 50, 50, 51, 51, 55, 50, 48, 51, 54, 56, 53, 52, 55, 55, 53, 56, 48, 56] _ hl (by simp)) ?_; intro wb hS) | ((with_reducible (show CallK _ 18 [_, S s] _ _ _ _)); refine zcp 18 (rless_spec [57, 50, 50, 51, 51, 55, 50, 48, 51, 54, 56, 53, 52, 55, 55, 53, 56, 48, 55] s _ (by simp) hl) ?_; intro wb hS) | (refine G.drt mixed fun K hK wd hxd => ?_; have hS := Sep.ext (by assumption) hxd) | with_reducible refine OT_leaf ?_ | (with_reducible refine OT_tail fun K2 hK2 => ?_) | (with_reducible (refine hK2 _ ?_); clear hK2 K2; intro wd hxd; have hS := Sep.ext (by assumption) hxd) | (have hk := hK2; clear hk; simp (disch := (first | exact dis | fail)) only [push_cast, ↓reduceIte, Nat.reduceAdd, Nat.reduceLeDiff, Nat.reduceEqDiff, Nat.reduceLT, Int.reduceToNat, hff]) | with_reducible refine OT_br fun K2 hK2 => ?_ | (refine hK2 _ _ ?_ ?_ <;> clear hK2 K2) | refine G.drg mixed fun K hK => ?_ | (refine G.cond (by simp only [push_cast, ↓reduceIte, Nat.reduceAdd, Nat.reduceLeDiff, Nat.reduceEqDiff, Nat.reduceLT, Int.reduceToNat, hff]; rfl) ?_ ?_ <;> intro hc <;> (try simp only [hcs, reduceCtorEq] at hc) <;> (try (exfalso; omega))))
    ((first | apply G.rv1 rfl | apply G.rv2 rfl | apply G.rv3 rfl | apply G.ret0 rfl) <;> (first | exact RV.tmp | exact zag (by simp only [push_cast, ↓reduceIte, Nat.reduceAdd, Nat.reduceLeDiff, Nat.reduceEqDiff, Nat.reduceLT, Int.reduceToNat]; rfl) | skip)); (try simp (disch := (first | exact dis | fail)) only [push_cast, ↓reduceIte, Nat.reduceAdd, Nat.reduceLeDiff, Nat.reduceEqDiff, Nat.reduceLT, Int.reduceToNat])
    (first | exact Sep.xt (by assumption) | exact ⟨rfl, Sep.xt (by assumption)⟩)
end Go.Proofs.YtcphknmkjicpkaaDoor
