/- Texts of the proof, joined. -/
import Derived.Test.YtdikpaochhacmaaGreatDoorrE06
namespace Go.Proofs.YtdikpaochhacmaaGreatDoor
set_option linter.unusedSimpArgs false
set_option linter.unusedVariables false
attribute [local irreducible] SemK UnitK StK AlcK BslK CallK CallV Instr.box Builtin.append_ Instr.makeSlice Instr.makeMap Instr.lookup Instr.mapUpdate Instr.sliceAt convert
open Go.RowKit
section
variable {g : Nat} {d : Dl} {l : Lm} {s : Str} {p : Nat} {m : Mk} {acc : List (List Str × Nat)} {k a : Int} {M : List Chk} {w w0 : World}
theorem mok_mono {p' : Nat} (h : MOk l m acc p) (hp : p ≤ p') : MOk l m acc p' := ⟨h.fl, h.ct, h.wd, h.bg, by have := h.al; omega, h.rcN, by have := h.rcp; omega⟩
theorem strict_f {f : Str} (h : MOk l m acc p) (hc : (¬ (if l.U = true then (1 : Int) else 0) = 1) ∨ ((acc.length : Int) ≤ 0) ∨ ¬ ((m.rc ++ [f]).length : Int) = ((List.map Prod.fst acc).getD 0 []).length) : ¬ (m.strict l = true ∧ m.rc.length + 1 = m.wd) := by
  unfold Mk.strict
  rw [h.ct]
  rintro ⟨h1, h2⟩
  simp only [Bool.and_eq_true, decide_eq_true_eq] at h1
  obtain ⟨hU, h0⟩ := h1
  rcases hc with hc | hc | hc
  · rw [hU] at hc; simp at hc
  · omega
  · apply hc
    rw [← h.wd h0, ← h2]; simp
theorem strict_t {f : Str} (h : MOk l m acc p) (hU : (if l.U = true then (1 : Int) else 0) = 1) (h0 : (0 : Int) < acc.length) (he : ((m.rc ++ [f]).length : Int) = ((List.map Prod.fst acc).getD 0 []).length) : m.strict l = true ∧ m.rc.length + 1 = m.wd := by
  unfold Mk.strict
  rw [h.ct, h.wd (by omega)]
  simp only [List.length_append, List.length_cons, List.length_nil] at he
  refine ⟨?_, by omega⟩
  rw [decide_eq_true (by omega : 0 < acc.length), Bool.and_true]
  apply Decidable.byContradiction
  intro hn
  rw [if_neg hn] at hU
  simp at hU
theorem rn_begin (hp : p < s.length) (h10 : atB s p 10 = false) (h13 : atB s p 13 = false) (h : ¬ l.R ≤ m.bg) : rn d l s 0 m p = rn d l s 1 { m with bg := m.bg + 1 } p := by
  rw [rn_cons hp, rn_cons hp, s0b (atB_f h13 (by omega)) (atB_f h10 (by omega)), if_neg h]
set_option maxHeartbeats 2000000 in
theorem rline_spec (hr : Rt d) (hM : RdrS w0 w g d l s p m acc 0 0 M) (hm : MOk l m acc p) (hrc : m.rc = []) (hp : p < s.length) (h10 : atB s p 10 = false) (h13 : atB s p 13 = false) (hl : s.length ≤ 900000) (hF : 1 ≤ l.F) (hN : 1 ≤ l.N) (hRR : l.R ≤ 2147483648) :
    Ret Tryz.prog 94 #[.pointer (some ⟨g, 0, none⟩)] w fun _ w' => LRes w0 w' g d l s p acc M (rn d l s 0 m p) := by
  refine in94 ?_
  obtain ⟨rv, Rv, Ev, vs, hS⟩ := hM
  have hbg := hm.bg
  have hal := hm.al
  generalize hR : rn d l s 0 m p = R
  by_cases h9 : (m.bg : Int) = l.R
  · rw [rn_er hp (k := 9) (by rw [s0b (atB_f h13 (by omega)) (atB_f h10 (by omega)), if_pos (by omega)])] at hR
    repeat' (first | ((with_reducible apply G.a); exact rfl) | refine G.reg fun K hK => ?_ | (with_reducible (refine hK _ _ ?_); clear hK K) | (with_reducible (refine hK _ ?_); clear hK K; intro wd hxd; have hS := Sep.ext (by assumption) hxd) | ((first | have hk := hK | have hk := hK2); clear hk; simp (disch := (first | exact dis | exact Sep.frzAt hS (by repeat constructor) (by simp; omega) | fail)) only [push_cast, ↓reduceIte, Nat.reduceAdd, Nat.reduceLeDiff, Nat.reduceEqDiff, Nat.reduceLT, Int.reduceToNat]) | ((first | refine brO_mk ?_ ?_ | refine brQ_mk ?_ ?_) <;> intro hb <;> (try simp only [Bool.not_eq_true', Bool.not_eq_false'] at hb) <;> have hc := hb <;> (try simp only [hcs, reduceCtorEq] at hc) <;> (try (exfalso; omega)) <;> simp only [hb] <;> clear hb) | (refine zalc ?_; intro gb wb hS) | (refine zbsl ?_; intro gb wb hS) | ((with_reducible (show SemK _ (Instr.box _ _) _ _ _ _)); refine zbox ?_; intro gb wb hS) | ((with_reducible (show StK _ _ (Value.pointer _) _ _ _ _ _)); refine zst ?_; intro wb hS; (try simp only [sets] at hS)) | (refine zcv ?_) | ((with_reducible (show CallK _ 118 _ _ _ _ _)); refine zco 118 (rwrong_spec hS _ _) ?_; rintro vb wb ⟨rfl, hS⟩) | (refine G.drt mixed fun K hK wd hxd => ?_; have hS := Sep.ext (by assumption) hxd) | with_reducible refine OT_leaf ?_ | (with_reducible refine OT_tail fun K2 hK2 => ?_) | (with_reducible (refine hK2 _ ?_); clear hK2 K2; intro wd hxd; have hS := Sep.ext (by assumption) hxd) | with_reducible refine OT_br fun K2 hK2 => ?_ | (refine hK2 _ _ ?_ ?_ <;> clear hK2 K2) | refine G.drg mixed fun K hK => ?_ | (refine G.cond (by simp only [push_cast, ↓reduceIte, Nat.reduceAdd, Nat.reduceLeDiff, Nat.reduceEqDiff, Nat.reduceLT, Int.reduceToNat]; rfl) ?_ ?_ <;> intro hc <;> (try simp only [hcs, reduceCtorEq] at hc) <;> (try (exfalso; omega))))
    all_goals
      ((first | apply G.rv1 rfl | apply G.rv2 rfl | apply G.rv3 rfl | apply G.ret0 rfl) <;> (first | exact RV.tmp | exact zag (by simp only [push_cast, ↓reduceIte, Nat.reduceAdd, Nat.reduceLeDiff, Nat.reduceEqDiff, Nat.reduceLT, Int.reduceToNat]; rfl) | skip)); (try simp (disch := (first | exact dis | exact Sep.frzAt hS (by repeat constructor) (by simp; omega) | fail)) only [push_cast, ↓reduceIte, Nat.reduceAdd, Nat.reduceLeDiff, Nat.reduceEqDiff, Nat.reduceLT, Int.reduceToNat])
      exact LRes.err (m' := m) ⟨_, _, _, _, hS⟩ (by decide) hR.symm
  · rw [rn_begin hp h10 h13 (by omega)] at hR
    repeat' (first | ((with_reducible apply G.a); exact rfl) | refine G.reg fun K hK => ?_ | (with_reducible (refine hK _ _ ?_); clear hK K) | (with_reducible (refine hK _ ?_); clear hK K; intro wd hxd; have hS := Sep.ext (by assumption) hxd) | ((first | have hk := hK | have hk := hK2); clear hk; simp (disch := (first | exact dis | exact Sep.frzAt hS (by repeat constructor) (by simp; omega) | fail)) only [push_cast, ↓reduceIte, Nat.reduceAdd, Nat.reduceLeDiff, Nat.reduceEqDiff, Nat.reduceLT, Int.reduceToNat]) | ((first | refine brO_mk ?_ ?_ | refine brQ_mk ?_ ?_) <;> intro hb <;> (try simp only [Bool.not_eq_true', Bool.not_eq_false'] at hb) <;> have hc := hb <;> (try simp only [hcs, reduceCtorEq] at hc) <;> (try (exfalso; omega)) <;> simp only [hb] <;> clear hb) | (refine zalc ?_; intro gb wb hS) | (refine zbsl ?_; intro gb wb hS) | ((with_reducible (show SemK _ (Instr.box _ _) _ _ _ _)); refine zbox ?_; intro gb wb hS) | ((with_reducible (show StK _ _ (Value.pointer _) _ _ _ _ _)); refine zst ?_; intro wb hS; (try simp only [sets] at hS)) | (refine zcv ?_) | ((with_reducible (show CallK _ 118 _ _ _ _ _)); refine zco 118 (rwrong_spec hS _ _) ?_; rintro vb wb ⟨rfl, hS⟩) | (refine G.drt mixed fun K hK wd hxd => ?_; have hS := Sep.ext (by assumption) hxd) | with_reducible refine OT_leaf ?_ | (with_reducible refine OT_tail fun K2 hK2 => ?_) | (with_reducible (refine hK2 _ ?_); clear hK2 K2; intro wd hxd; have hS := Sep.ext (by assumption) hxd) | with_reducible refine OT_br fun K2 hK2 => ?_ | (refine hK2 _ _ ?_ ?_ <;> clear hK2 K2) | refine G.drg mixed fun K hK => ?_ | (refine G.cond (by simp only [push_cast, ↓reduceIte, Nat.reduceAdd, Nat.reduceLeDiff, Nat.reduceEqDiff, Nat.reduceLT, Int.reduceToNat]; rfl) ?_ ?_ <;> intro hc <;> (try simp only [hcs, reduceCtorEq] at hc) <;> (try (exfalso; omega))))
    refine G.loop (fun r w' => ∃ (p' : Nat) (m' : Mk) (rv Rv Ev : Value) (vs : List Value), p ≤ p' ∧ p' ≤ s.length ∧ r 0 = .pointer (some ⟨g, 0, none⟩) ∧ MOk l m' acc p' ∧ R = rn d l s 1 m' p' ∧ Sep w0 w' (boxC g 192 [I d.dl, I d.q, I d.e, I l.F, I l.N, I l.R, I (if l.U = true then 1 else 0), S s, I p', I m'.bg, rv, Rv, Ev, I 0, I 0] :: accC rv 9 eS m'.rc :: accC Rv 49 eV vs :: frzC eS vs (List.map Prod.fst acc) :: accC Ev 3 eI (List.map (fun x => (x.2 : Int)) acc) :: M)) (fun _ w' => s.length - pos8 w' g) ?_ ?_
    · refine ⟨p, { m with bg := m.bg + 1 }, rv, Rv, Ev, vs, ?_⟩
      ((repeat' apply And.intro) <;> first | exact hS | exact dj | (simp only [push_cast, ↓reduceIte, Nat.reduceAdd, Nat.reduceLeDiff, Nat.reduceEqDiff, Nat.reduceLT, Int.reduceToNat] <;> omega) | skip)
      · exact ⟨hm.fl, hm.ct, hm.wd, by simp only; omega, hm.al, hm.rcN, hm.rcp⟩
      · exact hR.symm
    · clear hS hR
      rintro u wl ⟨p', m', rv, Rv, Ev, vs, hp1, hp2, q0, hm, hR, hS⟩ ih
      have h8 := pos8_of hS
      have hrcN := hm.rcN
      have hrcp := hm.rcp
      cases hq : atB s p' d.q
      · repeat' (first | refine G.seq ?_ | refine G.blk ?_ | refine G.endb ?_ | refine G.skip ?_ | refine G.lab ?_ | refine G.scp ?_ | refine G.ends ?_ | refine G.reg fun K hK => ?_ | (with_reducible (refine hK _ _ ?_); clear hK K) | (with_reducible (refine hK _ ?_); clear hK K; intro wd hxd; have hS := Sep.ext (by assumption) hxd) | (have hk := hK; clear hk; simp (disch := (first | exact dis | exact Sep.frzAt hS (by repeat constructor) (by simp; omega) | fail)) only [push_cast, ↓reduceIte, Nat.reduceAdd, Nat.reduceLeDiff, Nat.reduceEqDiff, Nat.reduceLT, Int.reduceToNat, q0, hq]) | ((first | refine brO_mk ?_ ?_ | refine brQ_mk ?_ ?_) <;> intro hb <;> (try simp only [Bool.not_eq_true', Bool.not_eq_false'] at hb) <;> have hc := hb <;> (try simp only [hcs, reduceCtorEq] at hc) <;> (try (exfalso; omega)) <;> simp only [hb] <;> clear hb) | (refine zalc ?_; intro gb wb hS) | (refine zbsl ?_; intro gb wb hS) | ((with_reducible (show SemK _ (Instr.box _ _) _ _ _ _)); refine zbox ?_; intro gb wb hS) | ((with_reducible (show StK _ _ (Value.pointer _) _ _ _ _ _)); refine zst ?_; intro wb hS; (try simp only [sets] at hS)) | (refine zcv ?_) | ((with_reducible (show CallK _ 91 _ _ _ _ _)); refine zcp 91 (ris_spec (Sep.blk hS .h) _) ?_; intro wb hS) | ((with_reducible (show CallK _ 118 _ _ _ _ _)); refine zco 118 (rwrong_spec hS _ _) ?_; rintro vb wb ⟨rfl, hS⟩) | ((with_reducible (show CallK _ 120 _ _ _ _ _)); refine zco 120 (rbare_spec (p := p') (m := m') hr ⟨_, _, _, _, hS⟩ hm.fl (by omega) (by omega) hF hq) ?_; rintro vb wb (⟨p2, f, st, rfl, haf, hR2, hsb, hp2, hp3, hf2, rv2, Rv2, Ev2, vs2, hS⟩ | ⟨p2, f, k, a, rfl, hR2, hk, rv2, Rv2, Ev2, vs2, hS⟩) <;> (have hlen := hS.frzLen (.t (.t (.t .h))); rw [List.length_map] at hlen)) | (refine zap ?_; intro vb wb hS) | (refine G.drt mixed fun K hK wd hxd => ?_; have hS := Sep.ext (by assumption) hxd) | with_reducible refine OT_leaf ?_ | (with_reducible refine OT_tail fun K2 hK2 => ?_) | (with_reducible (refine hK2 _ ?_); clear hK2 K2; intro wd hxd; have hS := Sep.ext (by assumption) hxd) | (have hk := hK2; clear hk; simp (disch := (first | exact dis | exact Sep.frzAt hS (by repeat constructor) (by simp; omega) | fail)) only [push_cast, ↓reduceIte, Nat.reduceAdd, Nat.reduceLeDiff, Nat.reduceEqDiff, Nat.reduceLT, Int.reduceToNat, q0, hq]) | with_reducible refine OT_br fun K2 hK2 => ?_ | (refine hK2 _ _ ?_ ?_ <;> clear hK2 K2) | refine G.drg mixed fun K hK => ?_ | (refine G.cond (by simp only [push_cast, ↓reduceIte, Nat.reduceAdd, Nat.reduceLeDiff, Nat.reduceEqDiff, Nat.reduceLT, Int.reduceToNat, q0, hq]; rfl) ?_ ?_ <;> intro hc <;> (try simp only [hcs, reduceCtorEq] at hc) <;> (try (exfalso; omega))))
        · have hdl : atB s p2 d.dl = false := by assumption
          have hpp : p ≠ p2 := (by rintro rfl; rcases hsb with h | h | h | h <;> first | omega | simp_all)
          refine G.exit rfl ?_
          exact rline_tail (m := m') hr ⟨_, _, _, _, hS⟩ (by simp only [push_cast, ↓reduceIte, Nat.reduceAdd, Nat.reduceLeDiff, Nat.reduceEqDiff, Nat.reduceLT, Int.reduceToNat, q0]) (hR.trans hR2) haf hsb hdl (mok_mono hm (by omega)) (by omega) (by omega) (by omega) hl hN
        · have hdl : atB s p2 d.dl = true := by assumption
          have hN8 : ((m'.rc ++ [f]).length : Int) = l.N := by assumption
          rw [hR2, rn_er (by have := (atB_t hdl).1; omega) (k := 8) (by rw [a_d hr haf (atB_t hdl).2, if_pos (by simp at hN8 ⊢; omega)])] at hR
          ((first | apply G.rv1 rfl | apply G.rv2 rfl | apply G.rv3 rfl | apply G.ret0 rfl) <;> (first | exact RV.tmp | exact zag (by simp only [push_cast, ↓reduceIte, Nat.reduceAdd, Nat.reduceLeDiff, Nat.reduceEqDiff, Nat.reduceLT, Int.reduceToNat, q0]; rfl) | skip)); (try simp (disch := (first | exact dis | exact Sep.frzAt hS (by repeat constructor) (by simp; omega) | fail)) only [push_cast, ↓reduceIte, Nat.reduceAdd, Nat.reduceLeDiff, Nat.reduceEqDiff, Nat.reduceLT, Int.reduceToNat, q0])
          exact LRes.err (m' := { m' with rc := m'.rc ++ [f] }) ⟨_, _, _, _, hS⟩ (by decide) hR
        · have hdl : atB s p2 d.dl = true := by assumption
          have hN8 : ¬ ((m'.rc ++ [f]).length : Int) = l.N := by assumption
          have hst := strict_t (f := f) hm (by assumption) (by omega) (by assumption)
          rw [hR2, rn_er (by have := (atB_t hdl).1; omega) (k := 10) (by rw [a_d hr haf (atB_t hdl).2, if_neg (by simp at hN8 ⊢; omega)]; exact if_pos hst)] at hR
          ((first | apply G.rv1 rfl | apply G.rv2 rfl | apply G.rv3 rfl | apply G.ret0 rfl) <;> (first | exact RV.tmp | exact zag (by simp only [push_cast, ↓reduceIte, Nat.reduceAdd, Nat.reduceLeDiff, Nat.reduceEqDiff, Nat.reduceLT, Int.reduceToNat, q0]; rfl) | skip)); (try simp (disch := (first | exact dis | exact Sep.frzAt hS (by repeat constructor) (by simp; omega) | fail)) only [push_cast, ↓reduceIte, Nat.reduceAdd, Nat.reduceLeDiff, Nat.reduceEqDiff, Nat.reduceLT, Int.reduceToNat, q0])
          exact LRes.err (m' := { m' with rc := m'.rc ++ [f] }) ⟨_, _, _, _, hS⟩ (by decide) hR
        iterate 3
          · have hdl : atB s p2 d.dl = true := by assumption
            have hN8 : ¬ ((m'.rc ++ [f]).length : Int) = l.N := by assumption
            have hst : ¬ (m'.strict l = true ∧ m'.rc.length + 1 = m'.wd) := by first | exact strict_f (f := f) hm (.inr (.inr (by assumption))) | exact strict_f (f := f) hm (.inl (by assumption)) | exact strict_f (f := f) hm (.inr (.inl (by omega)))
            have hlt2 := (atB_t hdl).1
            simp only [List.length_append, List.length_cons, List.length_nil] at hN8
            rw [hR2, rn_go (by omega) (by rw [a_d hr haf (atB_t hdl).2, if_neg (by simp only; omega)]; exact if_neg hst)] at hR
            refine ih _ _ ⟨p2 + 1, ({ m' with fl := f } : Mk).put, _, _, _, _, by omega, by omega, ?_, ?_, hR, hS⟩ ?_
            · simp only [push_cast, ↓reduceIte, Nat.reduceAdd, Nat.reduceLeDiff, Nat.reduceEqDiff, Nat.reduceLT, Int.reduceToNat, q0]
            · exact ⟨rfl, hm.ct, hm.wd, hm.bg, by omega, by show ((m'.rc ++ [f]).length : Int) < l.N; simp only [List.length_append, List.length_cons, List.length_nil]; omega, by show (m'.rc ++ [f]).length ≤ p2 + 1; simp only [List.length_append, List.length_cons, List.length_nil]; omega⟩
            · rw [h8, pos8_of (p := p2 + 1) hS]; omega
        · ((first | apply G.rv1 rfl | apply G.rv2 rfl | apply G.rv3 rfl | apply G.ret0 rfl) <;> (first | exact RV.tmp | exact zag (by simp only [push_cast, ↓reduceIte, Nat.reduceAdd, Nat.reduceLeDiff, Nat.reduceEqDiff, Nat.reduceLT, Int.reduceToNat, q0]; rfl) | skip)); (try simp (disch := (first | exact dis | exact Sep.frzAt hS (by repeat constructor) (by simp; omega) | fail)) only [push_cast, ↓reduceIte, Nat.reduceAdd, Nat.reduceLeDiff, Nat.reduceEqDiff, Nat.reduceLT, Int.reduceToNat, q0])
          exact LRes.err (m' := m') ⟨_, _, _, _, hS⟩ hk (hR.trans hR2)
      · rw [rn_go (by have := (atB_t hq).1; omega) (s1q hr (atB_t hq).2)] at hR
        have hlt := (atB_t hq).1
        repeat' (first | refine G.seq ?_ | refine G.blk ?_ | refine G.endb ?_ | refine G.skip ?_ | refine G.lab ?_ | refine G.scp ?_ | refine G.ends ?_ | refine G.reg fun K hK => ?_ | (with_reducible (refine hK _ _ ?_); clear hK K) | (with_reducible (refine hK _ ?_); clear hK K; intro wd hxd; have hS := Sep.ext (by assumption) hxd) | (have hk := hK; clear hk; simp (disch := (first | exact dis | exact Sep.frzAt hS (by repeat constructor) (by simp; omega) | fail)) only [push_cast, ↓reduceIte, Nat.reduceAdd, Nat.reduceLeDiff, Nat.reduceEqDiff, Nat.reduceLT, Int.reduceToNat, q0, hq]) | ((first | refine brO_mk ?_ ?_ | refine brQ_mk ?_ ?_) <;> intro hb <;> (try simp only [Bool.not_eq_true', Bool.not_eq_false'] at hb) <;> have hc := hb <;> (try simp only [hcs, reduceCtorEq] at hc) <;> (try (exfalso; omega)) <;> simp only [hb] <;> clear hb) | (refine zalc ?_; intro gb wb hS) | (refine zbsl ?_; intro gb wb hS) | ((with_reducible (show SemK _ (Instr.box _ _) _ _ _ _)); refine zbox ?_; intro gb wb hS) | ((with_reducible (show StK _ _ (Value.pointer _) _ _ _ _ _)); refine zst ?_; intro wb hS; (try simp only [sets] at hS)) | (refine zcv ?_) | ((with_reducible (show CallK _ 91 _ _ _ _ _)); refine zcp 91 (ris_spec (Sep.blk hS .h) _) ?_; intro wb hS) | ((with_reducible (show CallK _ 118 _ _ _ _ _)); refine zco 118 (rwrong_spec hS _ _) ?_; rintro vb wb ⟨rfl, hS⟩) | ((with_reducible (show CallK _ 119 _ _ _ _ _)); refine zco 119 (rquoted_spec (p := p' + 1) (m := m') hr ⟨_, _, _, _, hS⟩ hm.fl (by omega) (by omega) hF) ?_; rintro vb wb (⟨p2, f, st, rfl, haf, hR2, hsb, hp2, hp3, hf2, rv2, Rv2, Ev2, vs2, hS⟩ | ⟨p2, f, k, a, rfl, hR2, hk, rv2, Rv2, Ev2, vs2, hS⟩) <;> (have hlen := hS.frzLen (.t (.t (.t .h))); rw [List.length_map] at hlen)) | (refine zap ?_; intro vb wb hS) | (refine G.drt mixed fun K hK wd hxd => ?_; have hS := Sep.ext (by assumption) hxd) | with_reducible refine OT_leaf ?_ | (with_reducible refine OT_tail fun K2 hK2 => ?_) | (with_reducible (refine hK2 _ ?_); clear hK2 K2; intro wd hxd; have hS := Sep.ext (by assumption) hxd) | (have hk := hK2; clear hk; simp (disch := (first | exact dis | exact Sep.frzAt hS (by repeat constructor) (by simp; omega) | fail)) only [push_cast, ↓reduceIte, Nat.reduceAdd, Nat.reduceLeDiff, Nat.reduceEqDiff, Nat.reduceLT, Int.reduceToNat, q0, hq]) | with_reducible refine OT_br fun K2 hK2 => ?_ | (refine hK2 _ _ ?_ ?_ <;> clear hK2 K2) | refine G.drg mixed fun K hK => ?_ | (refine G.cond (by simp only [push_cast, ↓reduceIte, Nat.reduceAdd, Nat.reduceLeDiff, Nat.reduceEqDiff, Nat.reduceLT, Int.reduceToNat, q0, hq]; rfl) ?_ ?_ <;> intro hc <;> (try simp only [hcs, reduceCtorEq] at hc) <;> (try (exfalso; omega))))
        · have hdl : atB s p2 d.dl = false := by assumption
          have hpp : p ≠ p2 := (by omega)
          refine G.exit rfl ?_
          exact rline_tail (m := m') hr ⟨_, _, _, _, hS⟩ (by simp only [push_cast, ↓reduceIte, Nat.reduceAdd, Nat.reduceLeDiff, Nat.reduceEqDiff, Nat.reduceLT, Int.reduceToNat, q0]) (hR.trans hR2) haf hsb hdl (mok_mono hm (by omega)) (by omega) (by omega) (by omega) hl hN
        · have hdl : atB s p2 d.dl = true := by assumption
          have hN8 : ((m'.rc ++ [f]).length : Int) = l.N := by assumption
          rw [hR2, rn_er (by have := (atB_t hdl).1; omega) (k := 8) (by rw [a_d hr haf (atB_t hdl).2, if_pos (by simp at hN8 ⊢; omega)])] at hR
          ((first | apply G.rv1 rfl | apply G.rv2 rfl | apply G.rv3 rfl | apply G.ret0 rfl) <;> (first | exact RV.tmp | exact zag (by simp only [push_cast, ↓reduceIte, Nat.reduceAdd, Nat.reduceLeDiff, Nat.reduceEqDiff, Nat.reduceLT, Int.reduceToNat, q0]; rfl) | skip)); (try simp (disch := (first | exact dis | exact Sep.frzAt hS (by repeat constructor) (by simp; omega) | fail)) only [push_cast, ↓reduceIte, Nat.reduceAdd, Nat.reduceLeDiff, Nat.reduceEqDiff, Nat.reduceLT, Int.reduceToNat, q0])
          exact LRes.err (m' := { m' with rc := m'.rc ++ [f] }) ⟨_, _, _, _, hS⟩ (by decide) hR
        · have hdl : atB s p2 d.dl = true := by assumption
          have hN8 : ¬ ((m'.rc ++ [f]).length : Int) = l.N := by assumption
          have hst := strict_t (f := f) hm (by assumption) (by omega) (by assumption)
          rw [hR2, rn_er (by have := (atB_t hdl).1; omega) (k := 10) (by rw [a_d hr haf (atB_t hdl).2, if_neg (by simp at hN8 ⊢; omega)]; exact if_pos hst)] at hR
          ((first | apply G.rv1 rfl | apply G.rv2 rfl | apply G.rv3 rfl | apply G.ret0 rfl) <;> (first | exact RV.tmp | exact zag (by simp only [push_cast, ↓reduceIte, Nat.reduceAdd, Nat.reduceLeDiff, Nat.reduceEqDiff, Nat.reduceLT, Int.reduceToNat, q0]; rfl) | skip)); (try simp (disch := (first | exact dis | exact Sep.frzAt hS (by repeat constructor) (by simp; omega) | fail)) only [push_cast, ↓reduceIte, Nat.reduceAdd, Nat.reduceLeDiff, Nat.reduceEqDiff, Nat.reduceLT, Int.reduceToNat, q0])
          exact LRes.err (m' := { m' with rc := m'.rc ++ [f] }) ⟨_, _, _, _, hS⟩ (by decide) hR
        iterate 3
          · have hdl : atB s p2 d.dl = true := by assumption
            have hN8 : ¬ ((m'.rc ++ [f]).length : Int) = l.N := by assumption
            have hst : ¬ (m'.strict l = true ∧ m'.rc.length + 1 = m'.wd) := by first | exact strict_f (f := f) hm (.inr (.inr (by assumption))) | exact strict_f (f := f) hm (.inl (by assumption)) | exact strict_f (f := f) hm (.inr (.inl (by omega)))
            have hlt2 := (atB_t hdl).1
            simp only [List.length_append, List.length_cons, List.length_nil] at hN8
            rw [hR2, rn_go (by omega) (by rw [a_d hr haf (atB_t hdl).2, if_neg (by simp only; omega)]; exact if_neg hst)] at hR
            refine ih _ _ ⟨p2 + 1, ({ m' with fl := f } : Mk).put, _, _, _, _, by omega, by omega, ?_, ?_, hR, hS⟩ ?_
            · simp only [push_cast, ↓reduceIte, Nat.reduceAdd, Nat.reduceLeDiff, Nat.reduceEqDiff, Nat.reduceLT, Int.reduceToNat, q0]
            · exact ⟨rfl, hm.ct, hm.wd, hm.bg, by omega, by show ((m'.rc ++ [f]).length : Int) < l.N; simp only [List.length_append, List.length_cons, List.length_nil]; omega, by show (m'.rc ++ [f]).length ≤ p2 + 1; simp only [List.length_append, List.length_cons, List.length_nil]; omega⟩
            · rw [h8, pos8_of (p := p2 + 1) hS]; omega
        · ((first | apply G.rv1 rfl | apply G.rv2 rfl | apply G.rv3 rfl | apply G.ret0 rfl) <;> (first | exact RV.tmp | exact zag (by simp only [push_cast, ↓reduceIte, Nat.reduceAdd, Nat.reduceLeDiff, Nat.reduceEqDiff, Nat.reduceLT, Int.reduceToNat, q0]; rfl) | skip)); (try simp (disch := (first | exact dis | exact Sep.frzAt hS (by repeat constructor) (by simp; omega) | fail)) only [push_cast, ↓reduceIte, Nat.reduceAdd, Nat.reduceLeDiff, Nat.reduceEqDiff, Nat.reduceLT, Int.reduceToNat, q0])
          exact LRes.err (m' := m') ⟨_, _, _, _, hS⟩ hk (hR.trans hR2)
end
end Go.Proofs.YtdikpaochhacmaaGreatDoor
