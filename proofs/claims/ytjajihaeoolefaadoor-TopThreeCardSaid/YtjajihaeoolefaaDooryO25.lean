/- Texts of the proof, joined. -/
import Derived.Test.YtjajihaeoolefaaDooryI25
import Derived.Test.YtjajihaeoolefaaDooryN25
namespace Go.Proofs.YtjajihaeoolefaaDoor
set_option linter.unusedSimpArgs false
set_option linter.unusedVariables false
attribute [local irreducible] SemK UnitK StK AlcK BslK CallK CallV Instr.box Builtin.append_ Instr.makeSlice Instr.makeMap Instr.lookup Instr.mapUpdate Instr.sliceAt convert
open Go.RowKit
def ComR (w : World) (D : List Chg) (res : Value) (w' : World) : Prop := ∃ v vs, res = .tuple #[v, I D.length, I 0] ∧ Sep w w' [accC v 34 eCg vs, frzG vs D]
theorem fo_take {β : Type} (f : Option Chg → Option β) (l : List (Option Chg)) (k : Nat) (h : (k : Int) < l.length) : (l.take (k + 1)).filterMap f = (l.take k).filterMap f ++ (match f (l.getD k none) with | some c => [c] | none => []) := by
  rw [takeD l k h, List.filterMap_append]
  congr 1
  have : l.getD k default = l.getD k none := rfl
  rw [this]
  generalize l.getD k none = x
  rw [List.filterMap_cons, List.filterMap_nil]
  cases f x <;> rfl
theorem fo_len {β : Type} (f : Option Chg → Option β) (l : List (Option Chg)) (k : Nat) : ((l.take k).filterMap f).length ≤ k := Nat.le_trans (List.length_filterMap_le _ _) (by rw [List.length_take]; omega)
theorem sl_parts {w : World} {x : Slv} {s : Option Chg} (h : RdSl w x s) (hl : ∀ c, s = some c → c.old.length ≤ 1000000 ∧ c.new.length ≤ 1000000) : ∃ (o n : List Val), Rd w eVal x.2.2.1 o ∧ Rd w eVal x.2.2.2 n ∧ o.length ≤ 1000000 ∧ n.length ≤ 1000000 ∧ (x.1 = true → s = some ⟨x.2.1, o, n⟩) ∧ (x.1 = false → s = none) := by
  cases s with
  | none =>
    simp only [RdSl] at h
    subst h
    exact ⟨[], [], rd_nilV _ _, rd_nilV _ _, by simp, by simp, fun e => by simp [sl0] at e, fun _ => rfl⟩
  | some c =>
    obtain ⟨h1, h2, h3, h4⟩ := h
    obtain ⟨l1, l2⟩ := hl c rfl
    exact ⟨c.old, c.new, h3, h4, l1, l2, fun _ => by rw [h2], fun e => by rw [h1] at e; cases e⟩
attribute [local irreducible] accC boxC mapC frzC frzG
def comT : MC := match c13 with
  | .seq _ (.seq _ (.seq _ (.seq _ (.seq _ (.seq _ (.seq _ t)))))) => t
  | _ => .skip
set_option maxHeartbeats 4000000 in
theorem com_tail {ls : Value} {ws : List Slv} {slots : List (Option Chg)} {n : Nat} {w wl : World} {u : Fr} (hwl : ws.length = slots.length) (hwr : ∀ i, i < ws.length → RdSl w (ws.getD i default) (slots.getD i none) ∧ ∀ c, slots.getD i none = some c → c.old.length ≤ 1000000 ∧ c.new.length ≤ 1000000) (hsl : slots.length ≤ 1000000)
    (q16 : u 16 = ls) (hS : Sep w wl [accC ls 104 eSl ws]) :
    G Tryd.prog Tryd.f13 n [.c comT] (ComR w (outM slots)) u wl := by
  unfold comT c13
  dsimp only
  (have fct := @q16; repeat' (first | ((with_reducible apply G.a); exact rfl) | refine G.reg fun K hK => ?_ | (with_reducible (refine hK _ _ ?_); clear hK K) | (with_reducible (refine hK _ ?_); clear hK K; intro wd hxd; have hS := Sep.xx hxd) | ((first | have hk := hK | have hk := hK2); clear hk; simp (disch := first | exact dis | fail) only [push_cast, ↓reduceIte, Nat.reduceAdd, Nat.reduceLeDiff, Nat.reduceEqDiff, Nat.reduceLT, Int.reduceToNat, fct]) | ((first | refine brO_n ?_ ?_ | refine brQ_n ?_ ?_) <;> intro hb hc <;> first | (with_reducible exact False.elim hc) | (exfalso; omega) | (simp only [hb]; clear hb)) | ((first | refine zalc ?_ | refine zbsl ?_); intro gb wb hS) | ((with_reducible refine gSt ?_); refine zs2 ?_; intro wb hS) | (refine G.drt mixed fun K hK wd hxd => ?_; have hS := Sep.xx hxd) | with_reducible refine OT_leaf ?_ | (with_reducible (refine hK2 _ ?_); clear hK2 K2; intro wd hxd; have hS := Sep.xx hxd) | with_reducible refine OT_br fun K2 hK2 => ?_ | (refine hK2 _ _ ?_ ?_ <;> clear hK2 K2) | refine G.drg mixed fun K hK => ?_ | (refine G.cn ?_ ?_ <;> intro hc <;> first | (with_reducible exact False.elim hc) | (exfalso; omega) | skip))) <;> (try clear fct)
  all_goals
  have hS := (((hS.nil 34 eCg).frzG0).nil 34 eCg).frzG0
  refine G.loop (fun r w' => ∃ (k : Nat) (lo la : Value) (vo va : List (Int × Value × Value)), k ≤ ws.length ∧ r 107 = I k ∧ r 106 = I ws.length ∧ r 105 = ls ∧ r 24 = lo ∧ r 25 = la ∧
      Sep w w' [accC lo 34 eCg vo, frzG vo ((slots.take k).filterMap oldM), accC la 34 eCg va, frzG va ((slots.take k).filterMap newM3), accC ls 104 eSl ws]) (fun r _ => ws.length - toN (r 107)) ?_ ?_
  · have fct := @q16; exact ⟨0, .slice none 0 0, .slice none 0 0, [], [], Nat.zero_le _, by exact sf, by exact sf, by exact sf, by exact sf, by exact sf, (Sep.sub hS (by repeat first | exact Sub.rfl' | exact Sub.nil0 | (refine Sub.c (by repeat constructor) ?_) | refine Sub.skip ?_))⟩
  · clear hS q16
    rintro u2 wl2 ⟨k, lo, la, vo, va, hk, q107, q106, q105, q24, q25, hS⟩ ih
    have hm : toN (u2 107) = k := by rw [q107]; simp [toN]
    have hg1 := hS.frzGLen (.t .h)
    have hg2 := hS.frzGLen (.t (.t (.t .h)))
    by_cases hlt : (k : Int) < ws.length
    · have ht1 := fo_take oldM slots k (by omega)
      have ht2 := fo_take newM3 slots k (by omega)
      have hl1 := fo_len oldM slots k
      have hl2 := fo_len newM3 slots k
      obtain ⟨hr1, hr2⟩ := hwr k (by omega)
      obtain ⟨o, nn, ho, hn, hol, hnl, hs1, hs2⟩ := sl_parts hr1 hr2
      generalize slots.getD k none = s at ht1 ht2 hs1 hs2
      generalize hx : ws.getD k default = x at *
      obtain ⟨h, kd, sv, sn⟩ := x
      simp only [] at ho hn hs1 hs2
      have o1 := ho.one
      have o2 := hn.one
      (have fct := (And.intro @q107 (And.intro @q106 (And.intro @q105 (And.intro @q24 (And.intro @q25 @hx))))); repeat' (first | ((with_reducible apply G.a); exact rfl) | refine G.reg fun K hK => ?_ | (with_reducible (refine hK _ _ ?_); clear hK K) | (with_reducible (refine hK _ ?_); clear hK K; intro wd hxd; have hS := Sep.xx hxd) | ((first | have hk := hK | have hk := hK2); clear hk; simp (disch := first | exact dis | fail) only [push_cast, ↓reduceIte, Nat.reduceAdd, Nat.reduceLeDiff, Nat.reduceEqDiff, Nat.reduceLT, Int.reduceToNat, fct]) | ((first | refine brO_n ?_ ?_ | refine brQ_n ?_ ?_) <;> intro hb hc <;> first | (with_reducible exact False.elim hc) | (exfalso; omega) | (simp only [hb]; clear hb)) | ((first | refine zalc ?_ | refine zbsl ?_); intro gb wb hS) | ((with_reducible refine gSt ?_); refine zs2 ?_; intro wb hS) | (refine G.drt mixed fun K hK wd hxd => ?_; have hS := Sep.xx hxd) | with_reducible refine OT_leaf ?_ | (with_reducible (refine hK2 _ ?_); clear hK2 K2; intro wd hxd; have hS := Sep.xx hxd) | with_reducible refine OT_br fun K2 hK2 => ?_ | (refine hK2 _ _ ?_ ?_ <;> clear hK2 K2) | refine G.drg mixed fun K hK => ?_ | (refine G.cn ?_ ?_ <;> intro hc <;> first | (with_reducible exact False.elim hc) | (exfalso; omega) | skip))) <;> (try clear fct)
      all_goals
      show OT _ _ slotDT _ _
      refine slot_ot (h := h) (k := kd) (vo := sv) (vn := sn) (ls := ls) (lo := lo) (la := la) (ix := (k : Int)) (nl := (ws.length : Int)) ho hn hol hnl hS (by simp only [push_cast, ↓reduceIte, Nat.reduceAdd, Nat.reduceLeDiff, Nat.reduceEqDiff, Nat.reduceLT, Int.reduceToNat, q107, q106, q105, q24, q25] <;> rfl) (by simp only [push_cast, ↓reduceIte, Nat.reduceAdd, Nat.reduceLeDiff, Nat.reduceEqDiff, Nat.reduceLT, Int.reduceToNat, q107, q106, q105, q24, q25] <;> rfl) (by simp only [push_cast, ↓reduceIte, Nat.reduceAdd, Nat.reduceLeDiff, Nat.reduceEqDiff, Nat.reduceLT, Int.reduceToNat, q107, q106, q105, q24, q25] <;> rfl) (by simp only [push_cast, ↓reduceIte, Nat.reduceAdd, Nat.reduceLeDiff, Nat.reduceEqDiff, Nat.reduceLT, Int.reduceToNat, q107, q106, q105, q24, q25] <;> rfl) (by simp only [push_cast, ↓reduceIte, Nat.reduceAdd, Nat.reduceLeDiff, Nat.reduceEqDiff, Nat.reduceLT, Int.reduceToNat, q107, q106, q105, q24, q25] <;> rfl) (by simp only [push_cast, ↓reduceIte, Nat.reduceAdd, Nat.reduceLeDiff, Nat.reduceEqDiff, Nat.reduceLT, Int.reduceToNat, q107, q106, q105, q24, q25] <;> rfl) ?_
      clear hS q107 q106 q105 q24 q25
      intro ρ' w' xa xc g7 p24 p25 p27 p105 p106 p107 p28 hS
      refine hK _ _ ?_
      clear hK
      have ov : One xa := (Sep.rd hS .h).one
      have oc : One xc := (Sep.rd hS (.t .h)).one
      have fin : ∀ (lo2 la2 : Value) (vo2 va2 : List (Int × Value × Value)) (ρ2 : Fr) (w2 : World), ρ2 107 = I ((k + 1 : Nat) : Int) → ρ2 106 = I ws.length → ρ2 105 = ls → ρ2 24 = lo2 → ρ2 25 = la2 →
          Sep w w2 [accC lo2 34 eCg vo2, frzG vo2 ((slots.take (k + 1)).filterMap oldM), accC la2 34 eCg va2, frzG va2 ((slots.take (k + 1)).filterMap newM3), accC ls 104 eSl ws] → G Tryd.prog Tryd.f13 n [.l c13l2, .b 2, .c (.seq (.reg [⟨none, some 143, .mv (.tmp 24)⟩, ⟨none, some 144, .mv (.tmp 25)⟩, ⟨none, some 145, .raw (.call ⟨.builtin .append, #[.tmp 143, .tmp 144], #[27, 27]⟩) 27⟩, ⟨none, some 24, .mv (.tmp 145)⟩]) (.seq (.reg [⟨none, some 146, .mv (.tmp 24)⟩, ⟨none, some 147, .mv (.tmp 24)⟩, ⟨none, some 148, .len (.tmp 147)⟩, ⟨none, some 8, .mv (.tmp 146)⟩, ⟨none, some 9, .mv (.tmp 148)⟩, ⟨none, some 10, .mv (.const (.int .i64 0))⟩]) .ret))] (ComR w (outM slots)) ρ2 w2 := fun lo2 la2 vo2 va2 ρ2 w2 a1 a2 a3 a4 a5 a6 => by
        refine ih ρ2 w2 ⟨k + 1, lo2, la2, vo2, va2, by omega, a1, a2, a3, a4, a5, a6⟩ ?_
        rw [hm, a1]; simp only [toN_i]; omega
      cases h
      · rw [hs2 rfl] at ht1 ht2
        simp only [oldM, newM3, List.append_nil] at ht1 ht2
        (have fct := (And.intro @p24 (And.intro @p25 (And.intro @p27 (And.intro @p105 (And.intro @p106 (And.intro @p107 @p28)))))); repeat' (first | ((with_reducible apply G.a); exact rfl) | refine G.reg fun K hK => ?_ | (with_reducible (refine hK _ _ ?_); clear hK K) | (with_reducible (refine hK _ ?_); clear hK K; intro wd hxd; have hS := Sep.xx hxd) | ((first | have hk := hK | have hk := hK2); clear hk; simp (disch := first | exact dis | fail) only [push_cast, ↓reduceIte, Nat.reduceAdd, Nat.reduceLeDiff, Nat.reduceEqDiff, Nat.reduceLT, Int.reduceToNat, fct]) | ((first | refine brO_n ?_ ?_ | refine brQ_n ?_ ?_) <;> intro hb hc <;> first | (with_reducible exact False.elim hc) | (exfalso; omega) | (simp only [hb]; clear hb)) | ((first | refine zalc ?_ | refine zbsl ?_); intro gb wb hS) | ((with_reducible refine gSt ?_); refine zs2 ?_; intro wb hS) | (refine G.drt mixed fun K hK wd hxd => ?_; have hS := Sep.xx hxd) | with_reducible refine OT_leaf ?_ | (with_reducible (refine hK2 _ ?_); clear hK2 K2; intro wd hxd; have hS := Sep.xx hxd) | with_reducible refine OT_br fun K2 hK2 => ?_ | (refine hK2 _ _ ?_ ?_ <;> clear hK2 K2) | refine G.drg mixed fun K hK => ?_ | (refine G.cn ?_ ?_ <;> intro hc <;> first | (with_reducible exact False.elim hc) | (exfalso; omega) | skip))) <;> (try clear fct)
        all_goals
          exact fin lo la vo va _ _ (by simp only [push_cast, ↓reduceIte, Nat.reduceAdd, Nat.reduceLeDiff, Nat.reduceEqDiff, Nat.reduceLT, Int.reduceToNat, p24, p25, p27, p105, p106, p107, p28]) (by simp only [push_cast, ↓reduceIte, Nat.reduceAdd, Nat.reduceLeDiff, Nat.reduceEqDiff, Nat.reduceLT, Int.reduceToNat, p24, p25, p27, p105, p106, p107, p28]) (by simp only [push_cast, ↓reduceIte, Nat.reduceAdd, Nat.reduceLeDiff, Nat.reduceEqDiff, Nat.reduceLT, Int.reduceToNat, p24, p25, p27, p105, p106, p107, p28]) (by simp only [push_cast, ↓reduceIte, Nat.reduceAdd, Nat.reduceLeDiff, Nat.reduceEqDiff, Nat.reduceLT, Int.reduceToNat, p24, p25, p27, p105, p106, p107, p28]) (by simp only [push_cast, ↓reduceIte, Nat.reduceAdd, Nat.reduceLeDiff, Nat.reduceEqDiff, Nat.reduceLT, Int.reduceToNat, p24, p25, p27, p105, p106, p107, p28]) (by rw [ht1, ht2]; exact (Sep.sub hS (by repeat first | exact Sub.rfl' | exact Sub.nil0 | (refine Sub.c (by repeat constructor) ?_) | refine Sub.skip ?_)))
      · rw [hs1 rfl] at ht1 ht2
        simp only [oldM, newM3] at ht1 ht2
        by_cases hk3 : kd = 3
        · subst hk3
          rw [if_pos rfl] at ht1 ht2
          simp only [List.append_nil] at ht1 ht2
          (have fct := (And.intro @p24 (And.intro @p25 (And.intro @p27 (And.intro @p105 (And.intro @p106 (And.intro @p107 @p28)))))); repeat' (first | ((with_reducible apply G.a); exact rfl) | refine G.reg fun K hK => ?_ | (with_reducible (refine hK _ _ ?_); clear hK K) | (with_reducible (refine hK _ ?_); clear hK K; intro wd hxd; have hS := Sep.xx hxd) | ((first | have hk := hK | have hk := hK2); clear hk; simp (disch := first | exact dis | fail) only [push_cast, ↓reduceIte, Nat.reduceAdd, Nat.reduceLeDiff, Nat.reduceEqDiff, Nat.reduceLT, Int.reduceToNat, fct]) | ((first | refine brO_n ?_ ?_ | refine brQ_n ?_ ?_) <;> intro hb hc <;> first | (with_reducible exact False.elim hc) | (exfalso; omega) | (simp only [hb]; clear hb)) | ((first | refine zalc ?_ | refine zbsl ?_); intro gb wb hS) | ((with_reducible refine gSt ?_); refine zs2 ?_; intro wb hS) | (refine zap (y := ((3 : Int), xa, xc)) ?_ (hy := by rfl); intro vb wb hS) | (refine G.drt mixed fun K hK wd hxd => ?_; have hS := Sep.xx hxd) | with_reducible refine OT_leaf ?_ | (with_reducible (refine hK2 _ ?_); clear hK2 K2; intro wd hxd; have hS := Sep.xx hxd) | with_reducible refine OT_br fun K2 hK2 => ?_ | (refine hK2 _ _ ?_ ?_ <;> clear hK2 K2) | refine G.drg mixed fun K hK => ?_ | (refine G.cn ?_ ?_ <;> intro hc <;> first | (with_reducible exact False.elim hc) | (exfalso; omega) | skip))) <;> (try clear fct)
          all_goals
            have hS := Sep.frzGTwo (vs := va) (k := 3) hS .h .h (by repeat constructor)
            rw [← ht2] at hS
            exact fin lo _ vo _ _ _ (by simp only [push_cast, ↓reduceIte, Nat.reduceAdd, Nat.reduceLeDiff, Nat.reduceEqDiff, Nat.reduceLT, Int.reduceToNat, p24, p25, p27, p105, p106, p107, p28]) (by simp only [push_cast, ↓reduceIte, Nat.reduceAdd, Nat.reduceLeDiff, Nat.reduceEqDiff, Nat.reduceLT, Int.reduceToNat, p24, p25, p27, p105, p106, p107, p28]) (by simp only [push_cast, ↓reduceIte, Nat.reduceAdd, Nat.reduceLeDiff, Nat.reduceEqDiff, Nat.reduceLT, Int.reduceToNat, p24, p25, p27, p105, p106, p107, p28]) (by simp only [push_cast, ↓reduceIte, Nat.reduceAdd, Nat.reduceLeDiff, Nat.reduceEqDiff, Nat.reduceLT, Int.reduceToNat, p24, p25, p27, p105, p106, p107, p28]) rfl (by rw [ht1]; exact (Sep.sub hS (by repeat first | exact Sub.rfl' | exact Sub.nil0 | (refine Sub.c (by repeat constructor) ?_) | refine Sub.skip ?_)))
        · rw [if_neg hk3] at ht1 ht2
          simp only [List.append_nil] at ht1 ht2
          (have fct := (And.intro @p24 (And.intro @p25 (And.intro @p27 (And.intro @p105 (And.intro @p106 (And.intro @p107 @p28)))))); repeat' (first | ((with_reducible apply G.a); exact rfl) | refine G.reg fun K hK => ?_ | (with_reducible (refine hK _ _ ?_); clear hK K) | (with_reducible (refine hK _ ?_); clear hK K; intro wd hxd; have hS := Sep.xx hxd) | ((first | have hk := hK | have hk := hK2); clear hk; simp (disch := first | exact dis | fail) only [push_cast, ↓reduceIte, Nat.reduceAdd, Nat.reduceLeDiff, Nat.reduceEqDiff, Nat.reduceLT, Int.reduceToNat, fct]) | ((first | refine brO_n ?_ ?_ | refine brQ_n ?_ ?_) <;> intro hb hc <;> first | (with_reducible exact False.elim hc) | (exfalso; omega) | (simp only [hb]; clear hb)) | ((first | refine zalc ?_ | refine zbsl ?_); intro gb wb hS) | ((with_reducible refine gSt ?_); refine zs2 ?_; intro wb hS) | (refine zap (y := (kd, xa, xc)) ?_ (hy := by rfl); intro vb wb hS) | (refine G.drt mixed fun K hK wd hxd => ?_; have hS := Sep.xx hxd) | with_reducible refine OT_leaf ?_ | (with_reducible (refine hK2 _ ?_); clear hK2 K2; intro wd hxd; have hS := Sep.xx hxd) | with_reducible refine OT_br fun K2 hK2 => ?_ | (refine hK2 _ _ ?_ ?_ <;> clear hK2 K2) | refine G.drg mixed fun K hK => ?_ | (refine G.cn ?_ ?_ <;> intro hc <;> first | (with_reducible exact False.elim hc) | (exfalso; omega) | skip))) <;> (try clear fct)
          all_goals
            have hS := Sep.frzGTwo (vs := vo) (k := kd) hS .h .h (by repeat constructor)
            rw [← ht1] at hS
            exact fin _ la _ va _ _ (by simp only [push_cast, ↓reduceIte, Nat.reduceAdd, Nat.reduceLeDiff, Nat.reduceEqDiff, Nat.reduceLT, Int.reduceToNat, p24, p25, p27, p105, p106, p107, p28]) (by simp only [push_cast, ↓reduceIte, Nat.reduceAdd, Nat.reduceLeDiff, Nat.reduceEqDiff, Nat.reduceLT, Int.reduceToNat, p24, p25, p27, p105, p106, p107, p28]) (by simp only [push_cast, ↓reduceIte, Nat.reduceAdd, Nat.reduceLeDiff, Nat.reduceEqDiff, Nat.reduceLT, Int.reduceToNat, p24, p25, p27, p105, p106, p107, p28]) rfl (by simp only [push_cast, ↓reduceIte, Nat.reduceAdd, Nat.reduceLeDiff, Nat.reduceEqDiff, Nat.reduceLT, Int.reduceToNat, p24, p25, p27, p105, p106, p107, p28]) (by rw [ht2]; exact (Sep.sub hS (by repeat first | exact Sub.rfl' | exact Sub.nil0 | (refine Sub.c (by repeat constructor) ?_) | refine Sub.skip ?_)))
    · rw [List.take_of_length_le (by omega)] at hS hg1 hg2
      have hfl1 := fo_len oldM slots slots.length
      have hfl2 := fo_len newM3 slots slots.length
      rw [List.take_length] at hfl1 hfl2
      clear ih
      (have fct := (And.intro @q107 (And.intro @q106 (And.intro @q105 (And.intro @q24 @q25)))); repeat' (first | ((with_reducible apply G.a); exact rfl) | refine G.reg fun K hK => ?_ | (with_reducible (refine hK _ _ ?_); clear hK K) | (with_reducible (refine hK _ ?_); clear hK K; intro wd hxd; have hS := Sep.xx hxd) | ((first | have hk := hK | have hk := hK2); clear hk; simp (disch := first | exact dis | fail) only [push_cast, ↓reduceIte, Nat.reduceAdd, Nat.reduceLeDiff, Nat.reduceEqDiff, Nat.reduceLT, Int.reduceToNat, fct]) | ((first | refine brO_n ?_ ?_ | refine brQ_n ?_ ?_) <;> intro hb hc <;> first | (with_reducible exact False.elim hc) | (exfalso; omega) | (simp only [hb]; clear hb)) | ((first | refine zalc ?_ | refine zbsl ?_); intro gb wb hS) | ((with_reducible refine gSt ?_); refine zs2 ?_; intro wb hS) | (refine zan ?_; intro vb wb hS) | (refine G.drt mixed fun K hK wd hxd => ?_; have hS := Sep.xx hxd) | with_reducible refine OT_leaf ?_ | (with_reducible (refine hK2 _ ?_); clear hK2 K2; intro wd hxd; have hS := Sep.xx hxd) | with_reducible refine OT_br fun K2 hK2 => ?_ | (refine hK2 _ _ ?_ ?_ <;> clear hK2 K2) | refine G.drg mixed fun K hK => ?_ | (refine G.cn ?_ ?_ <;> intro hc <;> first | (with_reducible exact False.elim hc) | (exfalso; omega) | skip))) <;> (try clear fct)
      all_goals
        have hS := hS.frzGApp (.t .h) (by repeat constructor)
        (have fct := (And.intro @q107 (And.intro @q106 (And.intro @q105 (And.intro @q24 @q25)))); (first | refine G.r1 ?_ | refine G.r2 ?_ | refine G.r3 ?_ | refine G.r0 ?_ | refine G.d0 ?_); (try simp (disch := first | exact dis | fail) only [push_cast, ↓reduceIte, Nat.reduceAdd, Nat.reduceLeDiff, Nat.reduceEqDiff, Nat.reduceLT, Int.reduceToNat, fct]); (try clear fct))
        exact ⟨_, _, by rw [List.length_append, hg1, hg2]; unfold outM; rw [List.length_append], by unfold outM; exact (Sep.sub hS (by repeat first | exact Sub.rfl' | exact Sub.nil0 | (refine Sub.c (by repeat constructor) ?_) | refine Sub.skip ?_))⟩
end Go.Proofs.YtjajihaeoolefaaDoor
