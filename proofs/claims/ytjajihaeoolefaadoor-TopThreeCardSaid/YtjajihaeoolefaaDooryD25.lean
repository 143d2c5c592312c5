/- Texts of the proof, joined. -/
import Derived.Test.YtjajihaeoolefaaDooryC25
namespace Go.Proofs.YtjajihaeoolefaaDoor
set_option linter.unusedSimpArgs false
set_option linter.unusedVariables false
attribute [local irreducible] SemK UnitK StK AlcK BslK CallK CallV Instr.box Builtin.append_ Instr.makeSlice Instr.makeMap Instr.lookup Instr.mapUpdate Instr.sliceAt convert
open Go.RowKit
attribute [local irreducible] accC boxC mapC frzC
def applyL2 : MC := match c8 with
  | .seq _ (.seq _ (.seq _ (.seq _ (.seq _ (.seq _ (.seq _ (.seq _ (.seq t _)))))))) => t
  | _ => .skip
theorem applyT2_eq : applyT2 = .seq applyL2 applyT := rfl
set_option maxHeartbeats 4000000 in
theorem apply_tail2 {vl vr vc : Value} {l : List Col} {cs : List Chg} {s0 : Stt} {vs : List Value} {ps : List Int} {lp lr lg : Value} {gm g6 g3 : Nat} {n n0 : Nat} {w wl : World} {u : Fr} (h0 : Rd w eC vl l) (hll : l.length ≤ 1000000) {xs : List (Int × Value × Value)} (c1 : Rd w eCg vc xs) (hn0 : xs.length = n0)
    (m1 : xs.length = cs.length) (j1 : ∀ i, i < xs.length → (xs.getD i default).1 = (cs.getD i default).kind ∧ Rd w eVal (xs.getD i default).2.1 (cs.getD i default).old ∧ Rd w eVal (xs.getD i default).2.2 (cs.getD i default).new)
    (hfc : FineC cs) (hb2 : cs.length ≤ 1000000) (hfp : FineP ps l.length) (hT : Tab w) (oo : ∀ c ∈ cs, oneM l.length ps c = 0)
    (hs0 : SttOk ps s0) (hvl : vs.length = s0.rows.length) (hvr : ∀ i, i < vs.length → Rd w eVal (vs.getD i default) (s0.rows.getD i []) ∧ (s0.rows.getD i []).length ≤ 1000000) (hlr0 : s0.rows.length ≤ 1000000)
    (q2 : u 2 = vc) (q3 : u 3 = .pointer (some ⟨g3, 0, none⟩)) (q6 : u 6 = .pointer (some ⟨g6, 0, none⟩)) (q13 : u 13 = lp) (q14 : u 14 = lr) (q15 : u 15 = lg) (q16 : u 16 = .map (some gm))
    (hS : Sep w wl [accC lr 32 eV vs, accC lg 4 eB s0.gone, mapC gm I s0.at_, accC lp 3 eI ps, boxC g6 25 [.slice none 0 0, .slice none 0 0], boxC g3 25 [vl, vr]]) :
    G Tryd.prog Tryd.f8 n [.c applyT2] (ApR w l n0 (match cstsF ps cs 0 s0 with | .error x => .error x | .ok s => .ok (liveM s.rows s.gone))) u wl := by
  rw [applyT2_eq]
  have hTl := fun (s : Stt) (ws : List Value) (lp lr lg : Value) (gm g6 g3 : Nat) (n : Nat) (wl : World) (u : Fr) => @apply_tail vl vr vc l s ws ps lp lr lg gm g6 g3 n n0 w wl u h0 hll xs c1 hn0
  generalize applyT = T at hTl ⊢
  unfold applyL2 c8
  dsimp only
  have hbd3 := c1.bd
  (have fct := (And.intro @q2 (And.intro @q3 (And.intro @q6 (And.intro @q13 (And.intro @q14 (And.intro @q15 @q16)))))); repeat' (first | ((with_reducible apply G.a); exact rfl) | refine G.reg fun K hK => ?_ | (with_reducible (refine hK _ _ ?_); clear hK K) | (with_reducible (refine hK _ ?_); clear hK K; intro wd hxd; have hS := Sep.xx hxd) | ((first | have hk := hK | have hk := hK2); clear hk; simp (disch := first | exact dis | fail) only [push_cast, ↓reduceIte, Nat.reduceAdd, Nat.reduceLeDiff, Nat.reduceEqDiff, Nat.reduceLT, Int.reduceToNat, fct]) | ((first | refine brO_n ?_ ?_ | refine brQ_n ?_ ?_) <;> intro hb hc <;> first | (with_reducible exact False.elim hc) | (exfalso; omega) | (simp only [hb]; clear hb)) | ((first | refine zalc ?_ | refine zbsl ?_ | ((with_reducible refine gBox ?_); refine zbox ?_)); intro gb wb hS) | ((with_reducible refine gSt ?_); refine zs2 ?_; intro wb hS) | (refine G.drt mixed fun K hK wd hxd => ?_; have hS := Sep.xx hxd) | with_reducible refine OT_leaf ?_ | (with_reducible (refine hK2 _ ?_); clear hK2 K2; intro wd hxd; have hS := Sep.xx hxd) | with_reducible refine OT_br fun K2 hK2 => ?_ | (refine hK2 _ _ ?_ ?_ <;> clear hK2 K2) | refine G.drg mixed fun K hK => ?_ | (refine G.cn ?_ ?_ <;> intro hc <;> first | (with_reducible exact False.elim hc) | (exfalso; omega) | skip))) <;> (try clear fct)
  all_goals
  refine G.loop (fun r w' => ∃ (k : Nat) (lp lr lg : Value) (gm g6 g3 : Nat) (s : Stt) (ws : List Value), k ≤ xs.length ∧ r 76 = I k ∧ r 75 = I xs.length ∧ r 74 = vc ∧ r 2 = vc ∧ r 3 = .pointer (some ⟨g3, 0, none⟩) ∧ r 6 = .pointer (some ⟨g6, 0, none⟩) ∧ r 13 = lp ∧ r 14 = lr ∧ r 15 = lg ∧ r 16 = .map (some gm) ∧
      SttOk ps s ∧ ws.length = s.rows.length ∧ (∀ i, i < ws.length → Rd w eVal (ws.getD i default) (s.rows.getD i []) ∧ (s.rows.getD i []).length ≤ 1000000) ∧ s.rows.length ≤ 1000000 + k ∧ cstsF ps cs 0 s0 = cstsF ps (cs.drop k) k s ∧
      Sep w w' [accC lr 32 eV ws, accC lg 4 eB s.gone, mapC gm I s.at_, accC lp 3 eI ps, boxC g6 25 [.slice none 0 0, .slice none 0 0], boxC g3 25 [vl, vr]]) (fun r _ => xs.length - toN (r 76)) ?_ ?_
  · have fct := (And.intro @q2 (And.intro @q3 (And.intro @q6 (And.intro @q13 (And.intro @q14 (And.intro @q15 @q16)))))); exact ⟨0, lp, lr, lg, gm, g6, g3, s0, vs, Nat.zero_le _, by exact sf, by exact sf, by exact sf, by exact sf, by exact sf, by exact sf, by exact sf, by exact sf, by exact sf, by exact sf, hs0, hvl, hvr, by omega, rfl, (Sep.sub hS (by repeat first | exact Sub.rfl' | exact Sub.nil0 | (refine Sub.c (by repeat constructor) ?_) | refine Sub.skip ?_))⟩
  · clear hS q2 q3 q6 q13 q14 q15 q16
    rintro u2 wl2 ⟨k2, lp, lr, lg, gm, g6, g3, s, ws, hk2, q76, q75, q74, q2, q3, q6, q13, q14, q15, q16, hs, hwl, hwr, hlr, e, hS⟩ ih
    have hm : toN (u2 76) = k2 := by rw [q76]; simp [toN]
    by_cases hlt2 : (k2 : Int) < xs.length
    · rw [cstsF_step ps cs k2 s (by omega)] at e
      have hoc := oo (cs.getD k2 default) (getD_mem cs k2 (by omega))
      obtain ⟨y1, y2, y3⟩ := j1 k2 (by omega)
      obtain ⟨f1, f2⟩ := hfc k2 (by omega)
      generalize cs.getD k2 default = c at e hoc y1 y2 y3 f1 f2
      generalize hx : xs.getD k2 default = x at *
      obtain ⟨xk, xo, xn⟩ := x
      simp only [] at y1 y2 y3
      subst y1
      obtain ⟨o1, o2, o3, o4, o5, o6⟩ := oneM_ok hoc
      have hkc := fun (w2 : World) (hx : Ext w w2) (hp : Rd w2 eI lp ps) => key_spec (w := w2) (y2.ext hx) (y3.ext hx) hp f1 f2 (fun h => ⟨hfp.1, fun p hp => by have := hfp.2 p hp; have := (o4 h).1; omega⟩) (fun h => ⟨hfp.1, fun p hp => by have := hfp.2 p hp; have := (o5 (by omega)).1; omega⟩) (hT.ext hx)
      have hcst : cstM ps s c = match s.at_ (keyM ps c) with | none => if c.kind = 3 then .ok ⟨s.rows ++ [c.new], s.gone ++ [false], mput s.at_ (keyM ps c) (s.rows.length : Int)⟩ else .error 25 | some n => if c.kind = 3 then .error 15 else if s.rows.getD n.toNat [] ≠ c.old then .error 23 else if c.kind = 1 then .ok ⟨s.rows, s.gone.set n.toNat true, mdel s.at_ (keyM ps c)⟩ else .ok ⟨s.rows.set n.toNat c.new, s.gone, s.at_⟩ := rfl
      have hcok := fun s' h => (cst_ok (s' := s') hs hoc h).1
      rw [hcst] at e hcok
      clear hcst
      have hrg := fun n => stt_range (n := n) hs (m := keyM ps c)
      generalize keyM ps c = mk at e hkc hcok hrg
      have hgl := hs.len
      cases ha : s.at_ mk with
      | none =>
        rw [ha] at e hcok
        simp only [] at e hcok
        by_cases hk3 : c.kind = 3
        · rw [if_pos hk3] at e hcok
          rw [hk3] at hkc
          simp only [] at e
          have hns := hcok _ rfl
          have hnw := rows_snoc hwl hwr y3 (by have := (o5 (by omega)).1; omega)
          (have fct := (And.intro @q76 (And.intro @q75 (And.intro @q74 (And.intro @q2 (And.intro @q3 (And.intro @q6 (And.intro @q13 (And.intro @q14 (And.intro @q15 (And.intro @q16 (And.intro @hx (And.intro @hk3 @ha)))))))))))); repeat' (first | ((with_reducible apply G.a); exact rfl) | refine G.reg fun K hK => ?_ | (with_reducible (refine hK _ _ ?_); clear hK K) | (with_reducible (refine hK _ ?_); clear hK K; intro wd hxd; have hS := Sep.xx hxd) | ((first | have hk := hK | have hk := hK2); clear hk; simp (disch := first | exact dis | fail) only [push_cast, ↓reduceIte, Nat.reduceAdd, Nat.reduceLeDiff, Nat.reduceEqDiff, Nat.reduceLT, Int.reduceToNat, fct]) | ((first | refine brO_n ?_ ?_ | refine brQ_n ?_ ?_) <;> intro hb hc <;> first | (with_reducible exact False.elim hc) | (exfalso; omega) | (simp only [hb]; clear hb)) | ((first | refine zalc ?_ | refine zbsl ?_ | ((with_reducible refine gBox ?_); refine zbox ?_)); intro gb wb hS) | ((with_reducible refine gSt ?_); refine zs2 ?_; intro wb hS) | (refine zcp 26 (hkc _ hS.x (Sep.rd hS (by repeat constructor))) ?_; intro wb hS) | (refine zlk ?_) | (refine zmu ?_; intro wb hS) | (refine zap ?_; intro vb wb hS) | (refine G.drt mixed fun K hK wd hxd => ?_; have hS := Sep.xx hxd) | with_reducible refine OT_leaf ?_ | (with_reducible (refine hK2 _ ?_); clear hK2 K2; intro wd hxd; have hS := Sep.xx hxd) | with_reducible refine OT_br fun K2 hK2 => ?_ | (refine hK2 _ _ ?_ ?_ <;> clear hK2 K2) | refine G.drg mixed fun K hK => ?_ | (refine G.cn ?_ ?_ <;> intro hc <;> first | (with_reducible exact False.elim hc) | (exfalso; omega) | skip))) <;> (try clear fct)
          all_goals
            have fct := (And.intro @q76 (And.intro @q75 (And.intro @q74 (And.intro @q2 (And.intro @q3 (And.intro @q6 (And.intro @q13 (And.intro @q14 (And.intro @q15 @q16))))))))); refine ih _ _ ⟨k2 + 1, lp, _, _, gm, g6, g3, _, ws ++ [xn], by omega, by exact sf, by exact sf, by exact sf, by exact sf, by exact sf, by exact sf, by exact sf, by exact sf, by exact sf, by exact sf, hns, by simp [hwl], hnw, by simp; omega, e, by rw [← hwl]; exact (Sep.sub hS (by repeat first | exact Sub.rfl' | exact Sub.nil0 | (refine Sub.c (by repeat constructor) ?_) | refine Sub.skip ?_))⟩ ?_
            rw [hm]; simp only [push_cast, ↓reduceIte, Nat.reduceAdd, Nat.reduceLeDiff, Nat.reduceEqDiff, Nat.reduceLT, Int.reduceToNat, toN_i, q76, q75, q74, q2, q3, q6, q13, q14, q15, q16]; omega
        · rw [if_neg hk3] at e
          simp only [] at e
          rw [e]
          (have fct := (And.intro @q76 (And.intro @q75 (And.intro @q74 (And.intro @q2 (And.intro @q3 (And.intro @q6 (And.intro @q13 (And.intro @q14 (And.intro @q15 (And.intro @q16 (And.intro @hx (And.intro @hk3 @ha)))))))))))); repeat' (first | ((with_reducible apply G.a); exact rfl) | refine G.reg fun K hK => ?_ | (with_reducible (refine hK _ _ ?_); clear hK K) | (with_reducible (refine hK _ ?_); clear hK K; intro wd hxd; have hS := Sep.xx hxd) | ((first | have hk := hK | have hk := hK2); clear hk; simp (disch := first | exact dis | fail) only [push_cast, ↓reduceIte, Nat.reduceAdd, Nat.reduceLeDiff, Nat.reduceEqDiff, Nat.reduceLT, Int.reduceToNat, fct]) | ((first | refine brO_n ?_ ?_ | refine brQ_n ?_ ?_) <;> intro hb hc <;> first | (with_reducible exact False.elim hc) | (exfalso; omega) | (simp only [hb]; clear hb)) | ((first | refine zalc ?_ | refine zbsl ?_ | ((with_reducible refine gBox ?_); refine zbox ?_)); intro gb wb hS) | ((with_reducible refine gSt ?_); refine zs2 ?_; intro wb hS) | (refine zcp 26 (hkc _ hS.x (Sep.rd hS (by repeat constructor))) ?_; intro wb hS) | (refine zlk ?_) | (refine G.drt mixed fun K hK wd hxd => ?_; have hS := Sep.xx hxd) | with_reducible refine OT_leaf ?_ | (with_reducible (refine hK2 _ ?_); clear hK2 K2; intro wd hxd; have hS := Sep.xx hxd) | with_reducible refine OT_br fun K2 hK2 => ?_ | (refine hK2 _ _ ?_ ?_ <;> clear hK2 K2) | refine G.drg mixed fun K hK => ?_ | (refine G.cn ?_ ?_ <;> intro hc <;> first | (with_reducible exact False.elim hc) | (exfalso; omega) | skip))) <;> (try clear fct)
          all_goals
            (have fct := (And.intro @q76 (And.intro @q75 (And.intro @q74 (And.intro @q2 (And.intro @q3 (And.intro @q6 (And.intro @q13 (And.intro @q14 (And.intro @q15 @q16))))))))); (first | refine G.r1 ?_ | refine G.r2 ?_ | refine G.r3 ?_ | refine G.r0 ?_ | refine G.d0 ?_); (try simp (disch := first | exact dis | fail) only [push_cast, ↓reduceIte, Nat.reduceAdd, Nat.reduceLeDiff, Nat.reduceEqDiff, Nat.reduceLT, Int.reduceToNat, fct]); (try clear fct))
            exact ⟨by simp, rfl, Sep.xt (by assumption)⟩
      | some n =>
        rw [ha] at e hcok
        simp only [] at e hcok
        obtain ⟨n0, n1, n2⟩ := hrg n ha
        by_cases hk3 : c.kind = 3
        · rw [if_pos hk3] at e
          rw [hk3] at hkc
          simp only [] at e
          rw [e]
          (have fct := (And.intro @q76 (And.intro @q75 (And.intro @q74 (And.intro @q2 (And.intro @q3 (And.intro @q6 (And.intro @q13 (And.intro @q14 (And.intro @q15 (And.intro @q16 (And.intro @hx (And.intro @hk3 @ha)))))))))))); repeat' (first | ((with_reducible apply G.a); exact rfl) | refine G.reg fun K hK => ?_ | (with_reducible (refine hK _ _ ?_); clear hK K) | (with_reducible (refine hK _ ?_); clear hK K; intro wd hxd; have hS := Sep.xx hxd) | ((first | have hk := hK | have hk := hK2); clear hk; simp (disch := first | exact dis | fail) only [push_cast, ↓reduceIte, Nat.reduceAdd, Nat.reduceLeDiff, Nat.reduceEqDiff, Nat.reduceLT, Int.reduceToNat, fct]) | ((first | refine brO_n ?_ ?_ | refine brQ_n ?_ ?_) <;> intro hb hc <;> first | (with_reducible exact False.elim hc) | (exfalso; omega) | (simp only [hb]; clear hb)) | ((first | refine zalc ?_ | refine zbsl ?_ | ((with_reducible refine gBox ?_); refine zbox ?_)); intro gb wb hS) | ((with_reducible refine gSt ?_); refine zs2 ?_; intro wb hS) | (refine zcp 26 (hkc _ hS.x (Sep.rd hS (by repeat constructor))) ?_; intro wb hS) | (refine zlk ?_) | (refine G.drt mixed fun K hK wd hxd => ?_; have hS := Sep.xx hxd) | with_reducible refine OT_leaf ?_ | (with_reducible (refine hK2 _ ?_); clear hK2 K2; intro wd hxd; have hS := Sep.xx hxd) | with_reducible refine OT_br fun K2 hK2 => ?_ | (refine hK2 _ _ ?_ ?_ <;> clear hK2 K2) | refine G.drg mixed fun K hK => ?_ | (refine G.cn ?_ ?_ <;> intro hc <;> first | (with_reducible exact False.elim hc) | (exfalso; omega) | skip))) <;> (try clear fct)
          all_goals
            (have fct := (And.intro @q76 (And.intro @q75 (And.intro @q74 (And.intro @q2 (And.intro @q3 (And.intro @q6 (And.intro @q13 (And.intro @q14 (And.intro @q15 @q16))))))))); (first | refine G.r1 ?_ | refine G.r2 ?_ | refine G.r3 ?_ | refine G.r0 ?_ | refine G.d0 ?_); (try simp (disch := first | exact dis | fail) only [push_cast, ↓reduceIte, Nat.reduceAdd, Nat.reduceLeDiff, Nat.reduceEqDiff, Nat.reduceLT, Int.reduceToNat, fct]); (try clear fct))
            exact ⟨by simp, rfl, Sep.xt (by assumption)⟩
        · rw [if_neg hk3] at e hcok
          have hrn := hwr n.toNat (by omega)
          have heq := fun (w2 : World) (hx : Ext w w2) => eqV_spec (w := w2) (hrn.1.ext hx) (y2.ext hx)
          by_cases hq : s.rows.getD n.toNat [] = c.old
          · rw [if_neg (not_not_intro hq)] at e hcok
            have hdq : decide (s.rows.getD n.toNat [] = c.old) = true := decide_eq_true hq
            by_cases hk1' : c.kind = 1
            · rw [if_pos hk1'] at e hcok
              rw [hk1'] at hkc
              simp only [] at e
              have hns := hcok _ rfl
              (have fct := (And.intro @q76 (And.intro @q75 (And.intro @q74 (And.intro @q2 (And.intro @q3 (And.intro @q6 (And.intro @q13 (And.intro @q14 (And.intro @q15 (And.intro @q16 (And.intro @hx (And.intro @hk1' (And.intro @ha @hdq))))))))))))); repeat' (first | ((with_reducible apply G.a); exact rfl) | refine G.reg fun K hK => ?_ | (with_reducible (refine hK _ _ ?_); clear hK K) | (with_reducible (refine hK _ ?_); clear hK K; intro wd hxd; have hS := Sep.xx hxd) | ((first | have hk := hK | have hk := hK2); clear hk; simp (disch := first | exact dis | fail) only [push_cast, ↓reduceIte, Nat.reduceAdd, Nat.reduceLeDiff, Nat.reduceEqDiff, Nat.reduceLT, Int.reduceToNat, fct]) | ((first | refine brO_n ?_ ?_ | refine brQ_n ?_ ?_) <;> intro hb hc <;> first | (with_reducible exact False.elim hc) | (exfalso; omega) | (simp only [hb]; clear hb)) | ((first | refine zalc ?_ | refine zbsl ?_ | ((with_reducible refine gBox ?_); refine zbox ?_)); intro gb wb hS) | ((with_reducible refine gSt ?_); refine zs2 ?_; intro wb hS) | (refine zcp 26 (hkc _ hS.x (Sep.rd hS (by repeat constructor))) ?_; intro wb hS) | (refine zlk ?_)   | (refine zcp 27 (heq _ hS.x) ?_; intro wb hS) | (refine zdl ?_; intro wb hS) | (refine zse ?_; intro wb hS) | (refine G.drt mixed fun K hK wd hxd => ?_; have hS := Sep.xx hxd) | with_reducible refine OT_leaf ?_ | (with_reducible (refine hK2 _ ?_); clear hK2 K2; intro wd hxd; have hS := Sep.xx hxd) | with_reducible refine OT_br fun K2 hK2 => ?_ | (refine hK2 _ _ ?_ ?_ <;> clear hK2 K2) | refine G.drg mixed fun K hK => ?_ | (refine G.cn ?_ ?_ <;> intro hc <;> first | (with_reducible exact False.elim hc) | (exfalso; omega) | skip))) <;> (try clear fct)
              all_goals
                have fct := (And.intro @q76 (And.intro @q75 (And.intro @q74 (And.intro @q2 (And.intro @q3 (And.intro @q6 (And.intro @q13 (And.intro @q14 (And.intro @q15 @q16))))))))); refine ih _ _ ⟨k2 + 1, lp, lr, lg, gm, g6, g3, _, ws, by omega, by exact sf, by exact sf, by exact sf, by exact sf, by exact sf, by exact sf, by exact sf, by exact sf, by exact sf, by exact sf, hns, hwl, hwr, by simp only []; omega, e, (Sep.sub hS (by repeat first | exact Sub.rfl' | exact Sub.nil0 | (refine Sub.c (by repeat constructor) ?_) | refine Sub.skip ?_))⟩ ?_
                rw [hm]; simp only [push_cast, ↓reduceIte, Nat.reduceAdd, Nat.reduceLeDiff, Nat.reduceEqDiff, Nat.reduceLT, Int.reduceToNat, toN_i, q76, q75, q74, q2, q3, q6, q13, q14, q15, q16]; omega
            · rw [if_neg hk1'] at e hcok
              simp only [] at e
              have hns := hcok _ rfl
              have hone : ∀ z ∈ eV.f xn, One z := fun z hz => by rw [List.mem_singleton.1 hz]; exact y3.one
              have hnw := rows_set hwl (n := n.toNat) (by omega) hwr y3 (by have := (o5 hk1').1; omega)
              (have fct := (And.intro @q76 (And.intro @q75 (And.intro @q74 (And.intro @q2 (And.intro @q3 (And.intro @q6 (And.intro @q13 (And.intro @q14 (And.intro @q15 (And.intro @q16 (And.intro @hx (And.intro @hk1' (And.intro @hk3 (And.intro @ha @hdq)))))))))))))); repeat' (first | ((with_reducible apply G.a); exact rfl) | refine G.reg fun K hK => ?_ | (with_reducible (refine hK _ _ ?_); clear hK K) | (with_reducible (refine hK _ ?_); clear hK K; intro wd hxd; have hS := Sep.xx hxd) | ((first | have hk := hK | have hk := hK2); clear hk; simp (disch := first | exact dis | fail) only [push_cast, ↓reduceIte, Nat.reduceAdd, Nat.reduceLeDiff, Nat.reduceEqDiff, Nat.reduceLT, Int.reduceToNat, fct]) | ((first | refine brO_n ?_ ?_ | refine brQ_n ?_ ?_) <;> intro hb hc <;> first | (with_reducible exact False.elim hc) | (exfalso; omega) | (simp only [hb]; clear hb)) | ((first | refine zalc ?_ | refine zbsl ?_ | ((with_reducible refine gBox ?_); refine zbox ?_)); intro gb wb hS) | ((with_reducible refine gSt ?_); refine zs2 ?_; intro wb hS) | (refine zcp 26 (hkc _ hS.x (Sep.rd hS (by repeat constructor))) ?_; intro wb hS) | (refine zlk ?_)   | (refine zcp 27 (heq _ hS.x) ?_; intro wb hS) | (refine zse (y := xn) ?_ (hx := one_cells y3.one) (h1 := hone); intro wb hS) | (refine G.drt mixed fun K hK wd hxd => ?_; have hS := Sep.xx hxd) | with_reducible refine OT_leaf ?_ | (with_reducible (refine hK2 _ ?_); clear hK2 K2; intro wd hxd; have hS := Sep.xx hxd) | with_reducible refine OT_br fun K2 hK2 => ?_ | (refine hK2 _ _ ?_ ?_ <;> clear hK2 K2) | refine G.drg mixed fun K hK => ?_ | (refine G.cn ?_ ?_ <;> intro hc <;> first | (with_reducible exact False.elim hc) | (exfalso; omega) | skip))) <;> (try clear fct)
              all_goals
                have fct := (And.intro @q76 (And.intro @q75 (And.intro @q74 (And.intro @q2 (And.intro @q3 (And.intro @q6 (And.intro @q13 (And.intro @q14 (And.intro @q15 @q16))))))))); refine ih _ _ ⟨k2 + 1, lp, lr, lg, gm, g6, g3, _, ws.set n.toNat xn, by omega, by exact sf, by exact sf, by exact sf, by exact sf, by exact sf, by exact sf, by exact sf, by exact sf, by exact sf, by exact sf, hns, by simp [hwl], hnw, by simp; omega, e, (Sep.sub hS (by repeat first | exact Sub.rfl' | exact Sub.nil0 | (refine Sub.c (by repeat constructor) ?_) | refine Sub.skip ?_))⟩ ?_
                rw [hm]; simp only [push_cast, ↓reduceIte, Nat.reduceAdd, Nat.reduceLeDiff, Nat.reduceEqDiff, Nat.reduceLT, Int.reduceToNat, toN_i, q76, q75, q74, q2, q3, q6, q13, q14, q15, q16]; omega
          · rw [if_pos hq] at e
            simp only [] at e
            rw [e]
            have hdq : decide (s.rows.getD n.toNat [] = c.old) = false := decide_eq_false hq
            (have fct := (And.intro @q76 (And.intro @q75 (And.intro @q74 (And.intro @q2 (And.intro @q3 (And.intro @q6 (And.intro @q13 (And.intro @q14 (And.intro @q15 (And.intro @q16 (And.intro @hx (And.intro @hk3 (And.intro @ha @hdq))))))))))))); repeat' (first | ((with_reducible apply G.a); exact rfl) | refine G.reg fun K hK => ?_ | (with_reducible (refine hK _ _ ?_); clear hK K) | (with_reducible (refine hK _ ?_); clear hK K; intro wd hxd; have hS := Sep.xx hxd) | ((first | have hk := hK | have hk := hK2); clear hk; simp (disch := first | exact dis | fail) only [push_cast, ↓reduceIte, Nat.reduceAdd, Nat.reduceLeDiff, Nat.reduceEqDiff, Nat.reduceLT, Int.reduceToNat, fct]) | ((first | refine brO_n ?_ ?_ | refine brQ_n ?_ ?_) <;> intro hb hc <;> first | (with_reducible exact False.elim hc) | (exfalso; omega) | (simp only [hb]; clear hb)) | ((first | refine zalc ?_ | refine zbsl ?_ | ((with_reducible refine gBox ?_); refine zbox ?_)); intro gb wb hS) | ((with_reducible refine gSt ?_); refine zs2 ?_; intro wb hS) | (refine zcp 26 (hkc _ hS.x (Sep.rd hS (by repeat constructor))) ?_; intro wb hS) | (refine zlk ?_)   | (refine zcp 27 (heq _ hS.x) ?_; intro wb hS) | (refine G.drt mixed fun K hK wd hxd => ?_; have hS := Sep.xx hxd) | with_reducible refine OT_leaf ?_ | (with_reducible (refine hK2 _ ?_); clear hK2 K2; intro wd hxd; have hS := Sep.xx hxd) | with_reducible refine OT_br fun K2 hK2 => ?_ | (refine hK2 _ _ ?_ ?_ <;> clear hK2 K2) | refine G.drg mixed fun K hK => ?_ | (refine G.cn ?_ ?_ <;> intro hc <;> first | (with_reducible exact False.elim hc) | (exfalso; omega) | skip))) <;> (try clear fct)
            all_goals
              (have fct := (And.intro @q76 (And.intro @q75 (And.intro @q74 (And.intro @q2 (And.intro @q3 (And.intro @q6 (And.intro @q13 (And.intro @q14 (And.intro @q15 @q16))))))))); (first | refine G.r1 ?_ | refine G.r2 ?_ | refine G.r3 ?_ | refine G.r0 ?_ | refine G.d0 ?_); (try simp (disch := first | exact dis | fail) only [push_cast, ↓reduceIte, Nat.reduceAdd, Nat.reduceLeDiff, Nat.reduceEqDiff, Nat.reduceLT, Int.reduceToNat, fct]); (try clear fct))
              exact ⟨by simp, rfl, Sep.xt (by assumption)⟩
    · rw [List.drop_eq_nil_of_le (by omega), cstsF] at e
      rw [e]
      clear ih e
      (have fct := (And.intro @q76 (And.intro @q75 (And.intro @q74 (And.intro @q2 (And.intro @q3 (And.intro @q6 (And.intro @q13 (And.intro @q14 (And.intro @q15 @q16))))))))); repeat' (first | ((with_reducible apply G.a); exact rfl) | refine G.reg fun K hK => ?_ | (with_reducible (refine hK _ _ ?_); clear hK K) | (with_reducible (refine hK _ ?_); clear hK K; intro wd hxd; have hS := Sep.xx hxd) | ((first | have hk := hK | have hk := hK2); clear hk; simp (disch := first | exact dis | fail) only [push_cast, ↓reduceIte, Nat.reduceAdd, Nat.reduceLeDiff, Nat.reduceEqDiff, Nat.reduceLT, Int.reduceToNat, fct]) | ((first | refine brO_n ?_ ?_ | refine brQ_n ?_ ?_) <;> intro hb hc <;> first | (with_reducible exact False.elim hc) | (exfalso; omega) | (simp only [hb]; clear hb)) | ((first | refine zalc ?_ | refine zbsl ?_ | ((with_reducible refine gBox ?_); refine zbox ?_)); intro gb wb hS) | ((with_reducible refine gSt ?_); refine zs2 ?_; intro wb hS) | (refine G.drt mixed fun K hK wd hxd => ?_; have hS := Sep.xx hxd) | with_reducible refine OT_leaf ?_ | (with_reducible (refine hK2 _ ?_); clear hK2 K2; intro wd hxd; have hS := Sep.xx hxd) | with_reducible refine OT_br fun K2 hK2 => ?_ | (refine hK2 _ _ ?_ ?_ <;> clear hK2 K2) | refine G.drg mixed fun K hK => ?_ | (refine G.cn ?_ ?_ <;> intro hc <;> first | (with_reducible exact False.elim hc) | (exfalso; omega) | skip))) <;> (try clear fct)
      all_goals
        exact hTl s ws lp lr lg gm g6 g3 _ _ _ hs hwl hwr (by omega) (by simp only [push_cast, ↓reduceIte, Nat.reduceAdd, Nat.reduceLeDiff, Nat.reduceEqDiff, Nat.reduceLT, Int.reduceToNat, q76, q75, q74, q2, q3, q6, q13, q14, q15, q16]) (by simp only [push_cast, ↓reduceIte, Nat.reduceAdd, Nat.reduceLeDiff, Nat.reduceEqDiff, Nat.reduceLT, Int.reduceToNat, q76, q75, q74, q2, q3, q6, q13, q14, q15, q16]) (by simp only [push_cast, ↓reduceIte, Nat.reduceAdd, Nat.reduceLeDiff, Nat.reduceEqDiff, Nat.reduceLT, Int.reduceToNat, q76, q75, q74, q2, q3, q6, q13, q14, q15, q16]) (by simp only [push_cast, ↓reduceIte, Nat.reduceAdd, Nat.reduceLeDiff, Nat.reduceEqDiff, Nat.reduceLT, Int.reduceToNat, q76, q75, q74, q2, q3, q6, q13, q14, q15, q16]) (by simp only [push_cast, ↓reduceIte, Nat.reduceAdd, Nat.reduceLeDiff, Nat.reduceEqDiff, Nat.reduceLT, Int.reduceToNat, q76, q75, q74, q2, q3, q6, q13, q14, q15, q16]) hS
end Go.Proofs.YtjajihaeoolefaaDoor
