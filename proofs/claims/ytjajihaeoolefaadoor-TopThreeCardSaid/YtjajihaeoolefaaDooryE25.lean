/- Texts of the proof, joined. -/
import Derived.Test.YtjajihaeoolefaaDooryD25
namespace Go.Proofs.YtjajihaeoolefaaDoor
set_option linter.unusedSimpArgs false
set_option linter.unusedVariables false
attribute [local irreducible] SemK UnitK StK AlcK BslK CallK CallV Instr.box Builtin.append_ Instr.makeSlice Instr.makeMap Instr.lookup Instr.mapUpdate Instr.sliceAt convert
open Go.RowKit
attribute [local irreducible] accC boxC mapC frzC
def applyC (T : MC) : MC := match c8 with
  | .seq a (.seq b (.seq c (.seq d (.seq e (.seq f (.seq g (.seq h _))))))) => .seq a (.seq b (.seq c (.seq d (.seq e (.seq f (.seq g (.seq h T)))))))
  | _ => .skip
theorem applyC_eq : c8 = applyC applyT2 := rfl
set_option maxHeartbeats 4000000 in
theorem apply_spec {vl vr vk vc : Value} {l : List Col} {rows : List (List Val)} {keys : List Str} {cs : List Chg} {w : World} (h0 : Rd w eC vl l) (h2 : RdT w eVal vr rows) (h1 : Rd w eS vk keys) (hc : RdCs w vc cs) (hl : ∀ c ∈ l, c.name.length ≤ 100000000000) (hk1 : keys.length ≤ 1000)
    (hf : ∀ i, i < rows.length → FineV (rows.getD i [])) (hfc : FineC cs) (hb1 : rows.length ≤ 1000000) (hb2 : cs.length ≤ 1000000) (hll : l.length ≤ 1000000) (hT : Tab w) :
    Ret Tryd.prog 8 #[.agg #[vl, vr], vk, vc] w (ApR w l cs.length (applyM l rows keys cs)) := by
  refine in8 ?_
  rw [applyC_eq]
  have hS := Sep.start w
  have hbd := h0.bd
  have hdc := fun (w2 : World) (hx : Ext w w2) => dchk_spec (w := w2) (h0.ext hx) (h2.ext hx) (h1.ext hx) hl hk1 hf (hT.ext hx)
  have hpc := fun (w2 : World) (hx : Ext w w2) => pchk_spec (w := w2) (h0.ext hx) (h1.ext hx) (hc.ext hx) hl hk1 hfc (hT.ext hx)
  obtain ⟨vs, g1, l1, i1⟩ := h2
  have hbd2 := g1.bd
  obtain ⟨xs, c1, m1, j1⟩ := hc
  have hTl := fun (s0 : Stt) (vs : List Value) (ps : List Int) (lp lr lg : Value) (gm g6 g3 : Nat) (n : Nat) (wl : World) (u : Fr) => @apply_tail2 vl vr vc l cs s0 vs ps lp lr lg gm g6 g3 n cs.length w wl u h0 hll xs c1 m1 m1 j1 hfc hb2
  generalize applyT2 = T2 at hTl ⊢
  unfold applyC c8
  dsimp only
  have hbd3 := c1.bd
  have hin := dchk_iff l rows keys
  have hin2 := pchk_iff l keys cs
  have hne := fun h => dchk_ne (l := l) (rows := rows) (keys := keys) h
  have hap : applyM l rows keys cs = if (dchkM l rows keys).2 ≠ 0 then .error (0, (dchkM l rows keys).2) else if (pchkM l keys cs).2 ≠ 0 then .error (pchkM l keys cs) else match cstsF (placesM l keys) cs 0 (sttM (placesM l keys) rows) with | .error x => .error x | .ok s => .ok (liveM s.rows s.gone) := rfl
  rw [hap]
  clear hap
  generalize dchkM l rows keys = dd at *
  generalize pchkM l keys cs = pp at *
  obtain ⟨d1, d2⟩ := dd
  obtain ⟨p1, p2⟩ := pp
  by_cases hd : d2 = 0
  rotate_left
  · rw [if_pos hd]
    repeat' (first | ((with_reducible apply G.a); exact rfl) | refine G.reg fun K hK => ?_ | (with_reducible (refine hK _ _ ?_); clear hK K) | (with_reducible (refine hK _ ?_); clear hK K; intro wd hxd; have hS := Sep.xx hxd) | ((first | have hk := hK | have hk := hK2); clear hk; simp (disch := first | exact dis | fail) only [push_cast, ↓reduceIte, Nat.reduceAdd, Nat.reduceLeDiff, Nat.reduceEqDiff, Nat.reduceLT, Int.reduceToNat, fct]) | ((first | refine brO_n ?_ ?_ | refine brQ_n ?_ ?_) <;> intro hb hc <;> first | (with_reducible exact False.elim hc) | (exfalso; omega) | (simp only [hb]; clear hb)) | ((first | refine zalc ?_ | refine zbsl ?_ | ((with_reducible refine gBox ?_); refine zbox ?_)); intro gb wb hS) | ((with_reducible refine gSt ?_); refine zs2 ?_; intro wb hS) | (refine zcp 21 (hdc _ hS.x) ?_; intro wb hS) | (refine G.drt mixed fun K hK wd hxd => ?_; have hS := Sep.xx hxd) | with_reducible refine OT_leaf ?_ | (with_reducible (refine hK2 _ ?_); clear hK2 K2; intro wd hxd; have hS := Sep.xx hxd) | with_reducible refine OT_br fun K2 hK2 => ?_ | (refine hK2 _ _ ?_ ?_ <;> clear hK2 K2) | refine G.drg mixed fun K hK => ?_ | (refine G.cn ?_ ?_ <;> intro hc <;> first | (with_reducible exact False.elim hc) | (exfalso; omega) | skip))
    all_goals
      (first | refine G.r1 ?_ | refine G.r2 ?_ | refine G.r3 ?_ | refine G.r0 ?_ | refine G.d0 ?_); (try simp (disch := first | exact dis | fail) only [push_cast, ↓reduceIte, Nat.reduceAdd, Nat.reduceLeDiff, Nat.reduceEqDiff, Nat.reduceLT, Int.reduceToNat, fct])
      exact ⟨hd, rfl, Sep.xt (by assumption)⟩
  subst hd
  rw [if_neg (by simp)]
  by_cases hp : p2 = 0
  rotate_left
  · rw [if_pos hp]
    repeat' (first | ((with_reducible apply G.a); exact rfl) | refine G.reg fun K hK => ?_ | (with_reducible (refine hK _ _ ?_); clear hK K) | (with_reducible (refine hK _ ?_); clear hK K; intro wd hxd; have hS := Sep.xx hxd) | ((first | have hk := hK | have hk := hK2); clear hk; simp (disch := first | exact dis | fail) only [push_cast, ↓reduceIte, Nat.reduceAdd, Nat.reduceLeDiff, Nat.reduceEqDiff, Nat.reduceLT, Int.reduceToNat, fct]) | ((first | refine brO_n ?_ ?_ | refine brQ_n ?_ ?_) <;> intro hb hc <;> first | (with_reducible exact False.elim hc) | (exfalso; omega) | (simp only [hb]; clear hb)) | ((first | refine zalc ?_ | refine zbsl ?_ | ((with_reducible refine gBox ?_); refine zbox ?_)); intro gb wb hS) | ((with_reducible refine gSt ?_); refine zs2 ?_; intro wb hS) | (refine zcp 21 (hdc _ hS.x) ?_; intro wb hS) | (refine zcp 22 (hpc _ hS.x) ?_; intro wb hS) | (refine G.drt mixed fun K hK wd hxd => ?_; have hS := Sep.xx hxd) | with_reducible refine OT_leaf ?_ | (with_reducible (refine hK2 _ ?_); clear hK2 K2; intro wd hxd; have hS := Sep.xx hxd) | with_reducible refine OT_br fun K2 hK2 => ?_ | (refine hK2 _ _ ?_ ?_ <;> clear hK2 K2) | refine G.drg mixed fun K hK => ?_ | (refine G.cn ?_ ?_ <;> intro hc <;> first | (with_reducible exact False.elim hc) | (exfalso; omega) | skip))
    all_goals
      (first | refine G.r1 ?_ | refine G.r2 ?_ | refine G.r3 ?_ | refine G.r0 ?_ | refine G.d0 ?_); (try simp (disch := first | exact dis | fail) only [push_cast, ↓reduceIte, Nat.reduceAdd, Nat.reduceLeDiff, Nat.reduceEqDiff, Nat.reduceLT, Int.reduceToNat, fct])
      exact ⟨hp, rfl, Sep.xt (by assumption)⟩
  subst hp
  rw [if_neg (by simp)]
  obtain ⟨ko, ro⟩ := hin.1 rfl
  obtain ⟨_, oo⟩ := hin2.1 rfl
  have hfp := plc_fine (keys := keys) (hne rfl) hk1
  clear hin hin2 hne
  have hft := fun (w2 : World) (hx : Ext w w2) => cloneT_spec (w := w2) (g1.ext hx) (by omega)
  repeat' (first | ((with_reducible apply G.a); exact rfl) | refine G.reg fun K hK => ?_ | (with_reducible (refine hK _ _ ?_); clear hK K) | (with_reducible (refine hK _ ?_); clear hK K; intro wd hxd; have hS := Sep.xx hxd) | ((first | have hk := hK | have hk := hK2); clear hk; simp (disch := first | exact dis | fail) only [push_cast, ↓reduceIte, Nat.reduceAdd, Nat.reduceLeDiff, Nat.reduceEqDiff, Nat.reduceLT, Int.reduceToNat, fct]) | ((first | refine brO_n ?_ ?_ | refine brQ_n ?_ ?_) <;> intro hb hc <;> first | (with_reducible exact False.elim hc) | (exfalso; omega) | (simp only [hb]; clear hb)) | ((first | refine zalc ?_ | refine zbsl ?_ | ((with_reducible refine gBox ?_); refine zbox ?_)); intro gb wb hS) | ((with_reducible refine gSt ?_); refine zs2 ?_; intro wb hS) | (refine zcp 21 (hdc _ hS.x) ?_; intro wb hS) | (refine zcp 22 (hpc _ hS.x) ?_; intro wb hS) | (refine zco 23 (pfind_spec (h0.ext hS.x) (h1.ext hS.x) hk1) ?_; rintro vb wb hS2; have hS := hS2.ap; simp only [apps] at hS) | (refine zco 24 (hft _ hS.x) ?_; rintro vb wb hS2; have hS := hS2.ap; simp only [apps] at hS) | (refine zmk eB false ?_; intro vb wb hS) | (refine zmm I ?_; intro gb wb hS) | (refine G.drt mixed fun K hK wd hxd => ?_; have hS := Sep.xx hxd) | with_reducible refine OT_leaf ?_ | (with_reducible (refine hK2 _ ?_); clear hK2 K2; intro wd hxd; have hS := Sep.xx hxd) | with_reducible refine OT_br fun K2 hK2 => ?_ | (refine hK2 _ _ ?_ ?_ <;> clear hK2 K2) | refine G.drg mixed fun K hK => ?_ | (refine G.cn ?_ ?_ <;> intro hc <;> first | (with_reducible exact False.elim hc) | (exfalso; omega) | skip))
  all_goals
  have hrep : (((vs.length : Nat) : Int)).toNat = rows.length := by omega
  rw [hrep] at hS
  generalize hps : placesM l keys = ps at *
  refine G.loop (fun r w' => ∃ (k : Nat) (lp lr lg : Value) (gm g6 g3 : Nat) (m : Str → Option Int), k ≤ vs.length ∧ r 63 = I k ∧ r 62 = I vs.length ∧ r 61 = lr ∧ r 2 = vc ∧ r 3 = .pointer (some ⟨g3, 0, none⟩) ∧ r 6 = .pointer (some ⟨g6, 0, none⟩) ∧ r 13 = lp ∧ r 14 = lr ∧ r 15 = lg ∧ r 16 = .map (some gm) ∧
      atsF ps rows 0 (fun _ => none) = atsF ps (rows.drop k) k m ∧
      Sep w w' [mapC gm I m, accC lp 3 eI ps, accC lr 32 eV vs, accC lg 4 eB (List.replicate rows.length false), boxC g6 25 [.slice none 0 0, .slice none 0 0], boxC g3 25 [vl, vr]]) (fun r _ => vs.length - toN (r 63)) ?_ ?_
  · exact ⟨0, _, _, _, _, _, _, fun _ => none, Nat.zero_le _, by exact sf, by exact sf, by exact sf, by exact sf, by exact sf, by exact sf, by exact sf, by exact sf, by exact sf, by exact sf, rfl, (Sep.sub hS (by repeat first | exact Sub.rfl' | exact Sub.nil0 | (refine Sub.c (by repeat constructor) ?_) | refine Sub.skip ?_))⟩
  · clear hS
    rintro u wl ⟨k, lp, lr, lg, gm, g6, g3, m, hk, q63, q62, q61, q2, q3, q6, q13, q14, q15, q16, e, hS⟩ ih
    have hm : toN (u 63) = k := by rw [q63]; simp [toN]
    by_cases hlt : (k : Int) < vs.length
    · rw [atsF_step ps rows k m (by omega)] at e
      have hrk := i1 k (by omega)
      have hwk := ro.w (rows.getD k []) (getD_mem rows k (by omega))
      have hfk := hf k (by omega)
      generalize rows.getD k [] = rk at e hrk hwk hfk
      have hmk := fun (w2 : World) (hx : Ext w w2) (hp : Rd w2 eI lp ps) => markw_spec (w := w2) (hrk.ext hx) hp hfk ⟨hfp.1, fun p hp => by have := hfp.2 p hp; omega⟩ (hT.ext hx)
      generalize markM tailW rk ps = mk at e hmk
      (have fct := (And.intro @q63 (And.intro @q62 (And.intro @q61 (And.intro @q2 (And.intro @q3 (And.intro @q6 (And.intro @q13 (And.intro @q14 (And.intro @q15 @q16))))))))); repeat' (first | ((with_reducible apply G.a); exact rfl) | refine G.reg fun K hK => ?_ | (with_reducible (refine hK _ _ ?_); clear hK K) | (with_reducible (refine hK _ ?_); clear hK K; intro wd hxd; have hS := Sep.xx hxd) | ((first | have hk := hK | have hk := hK2); clear hk; simp (disch := first | exact dis | fail) only [push_cast, ↓reduceIte, Nat.reduceAdd, Nat.reduceLeDiff, Nat.reduceEqDiff, Nat.reduceLT, Int.reduceToNat, fct]) | ((first | refine brO_n ?_ ?_ | refine brQ_n ?_ ?_) <;> intro hb hc <;> first | (with_reducible exact False.elim hc) | (exfalso; omega) | (simp only [hb]; clear hb)) | ((first | refine zalc ?_ | refine zbsl ?_ | ((with_reducible refine gBox ?_); refine zbox ?_)); intro gb wb hS) | ((with_reducible refine gSt ?_); refine zs2 ?_; intro wb hS) | (refine zcp 25 (hmk _ hS.x (Sep.rd hS (by repeat constructor))) ?_; intro wb hS) | (refine zmu ?_; intro wb hS) | (refine G.drt mixed fun K hK wd hxd => ?_; have hS := Sep.xx hxd) | with_reducible refine OT_leaf ?_ | (with_reducible (refine hK2 _ ?_); clear hK2 K2; intro wd hxd; have hS := Sep.xx hxd) | with_reducible refine OT_br fun K2 hK2 => ?_ | (refine hK2 _ _ ?_ ?_ <;> clear hK2 K2) | refine G.drg mixed fun K hK => ?_ | (refine G.cn ?_ ?_ <;> intro hc <;> first | (with_reducible exact False.elim hc) | (exfalso; omega) | skip))) <;> (try clear fct)
      all_goals
        have fct := (And.intro @q63 (And.intro @q62 (And.intro @q61 (And.intro @q2 (And.intro @q3 (And.intro @q6 (And.intro @q13 (And.intro @q14 (And.intro @q15 @q16))))))))); refine ih _ _ ⟨k + 1, lp, lr, lg, gm, g6, g3, _, by omega, by exact sf, by exact sf, by exact sf, by exact sf, by exact sf, by exact sf, by exact sf, by exact sf, by exact sf, by exact sf, e, (Sep.sub hS (by repeat first | exact Sub.rfl' | exact Sub.nil0 | (refine Sub.c (by repeat constructor) ?_) | refine Sub.skip ?_))⟩ ?_
        rw [hm]; simp only [push_cast, ↓reduceIte, Nat.reduceAdd, Nat.reduceLeDiff, Nat.reduceEqDiff, Nat.reduceLT, Int.reduceToNat, toN_i, q63, q62, q61, q2, q3, q6, q13, q14, q15, q16]; omega
    · rw [List.drop_eq_nil_of_le (by omega), atsF] at e
      rw [← e] at hS
      clear ih e
      have hs0 : SttOk ps (sttM ps rows) := stt_ok ro.d
      have hsr : (sttM ps rows).rows = rows := rfl
      have hsa : (sttM ps rows).at_ = atsF ps rows 0 fun _ => none := rfl
      have hsg : (sttM ps rows).gone = List.replicate rows.length false := rfl
      rw [← hsa, ← hsg] at hS
      (have fct := (And.intro @q63 (And.intro @q62 (And.intro @q61 (And.intro @q2 (And.intro @q3 (And.intro @q6 (And.intro @q13 (And.intro @q14 (And.intro @q15 @q16))))))))); repeat' (first | ((with_reducible apply G.a); exact rfl) | refine G.reg fun K hK => ?_ | (with_reducible (refine hK _ _ ?_); clear hK K) | (with_reducible (refine hK _ ?_); clear hK K; intro wd hxd; have hS := Sep.xx hxd) | ((first | have hk := hK | have hk := hK2); clear hk; simp (disch := first | exact dis | fail) only [push_cast, ↓reduceIte, Nat.reduceAdd, Nat.reduceLeDiff, Nat.reduceEqDiff, Nat.reduceLT, Int.reduceToNat, fct]) | ((first | refine brO_n ?_ ?_ | refine brQ_n ?_ ?_) <;> intro hb hc <;> first | (with_reducible exact False.elim hc) | (exfalso; omega) | (simp only [hb]; clear hb)) | ((first | refine zalc ?_ | refine zbsl ?_ | ((with_reducible refine gBox ?_); refine zbox ?_)); intro gb wb hS) | ((with_reducible refine gSt ?_); refine zs2 ?_; intro wb hS) | (refine G.drt mixed fun K hK wd hxd => ?_; have hS := Sep.xx hxd) | with_reducible refine OT_leaf ?_ | (with_reducible (refine hK2 _ ?_); clear hK2 K2; intro wd hxd; have hS := Sep.xx hxd) | with_reducible refine OT_br fun K2 hK2 => ?_ | (refine hK2 _ _ ?_ ?_ <;> clear hK2 K2) | refine G.drg mixed fun K hK => ?_ | (refine G.cn ?_ ?_ <;> intro hc <;> first | (with_reducible exact False.elim hc) | (exfalso; omega) | skip))) <;> (try clear fct)
      all_goals
        exact hTl (sttM ps rows) vs ps lp lr lg gm g6 g3 _ _ _ hfp hT oo hs0 (by rw [hsr, l1]) (fun i hi => ⟨by rw [hsr]; exact i1 i (by omega), by rw [hsr]; have := (ro.w (rows.getD i []) (getD_mem rows i (by omega))).1; omega⟩) (by rw [hsr]; omega) (by simp only [push_cast, ↓reduceIte, Nat.reduceAdd, Nat.reduceLeDiff, Nat.reduceEqDiff, Nat.reduceLT, Int.reduceToNat, q63, q62, q61, q2, q3, q6, q13, q14, q15, q16]) (by simp only [push_cast, ↓reduceIte, Nat.reduceAdd, Nat.reduceLeDiff, Nat.reduceEqDiff, Nat.reduceLT, Int.reduceToNat, q63, q62, q61, q2, q3, q6, q13, q14, q15, q16]) (by simp only [push_cast, ↓reduceIte, Nat.reduceAdd, Nat.reduceLeDiff, Nat.reduceEqDiff, Nat.reduceLT, Int.reduceToNat, q63, q62, q61, q2, q3, q6, q13, q14, q15, q16]) (by simp only [push_cast, ↓reduceIte, Nat.reduceAdd, Nat.reduceLeDiff, Nat.reduceEqDiff, Nat.reduceLT, Int.reduceToNat, q63, q62, q61, q2, q3, q6, q13, q14, q15, q16]) (by simp only [push_cast, ↓reduceIte, Nat.reduceAdd, Nat.reduceLeDiff, Nat.reduceEqDiff, Nat.reduceLT, Int.reduceToNat, q63, q62, q61, q2, q3, q6, q13, q14, q15, q16]) (by simp only [push_cast, ↓reduceIte, Nat.reduceAdd, Nat.reduceLeDiff, Nat.reduceEqDiff, Nat.reduceLT, Int.reduceToNat, q63, q62, q61, q2, q3, q6, q13, q14, q15, q16]) (by simp only [push_cast, ↓reduceIte, Nat.reduceAdd, Nat.reduceLeDiff, Nat.reduceEqDiff, Nat.reduceLT, Int.reduceToNat, q63, q62, q61, q2, q3, q6, q13, q14, q15, q16]) (Sep.sub hS (by repeat first | exact Sub.rfl' | exact Sub.nil0 | (refine Sub.c (by repeat constructor) ?_) | refine Sub.skip ?_))
end Go.Proofs.YtjajihaeoolefaaDoor
