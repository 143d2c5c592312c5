/- Texts of the proof, joined. -/
import Derived.Test.YtjajihaeoolefaaDooryO25
namespace Go.Proofs.YtjajihaeoolefaaDoor
set_option linter.unusedSimpArgs false
set_option linter.unusedVariables false
attribute [local irreducible] SemK UnitK StK AlcK BslK CallK CallV Instr.box Builtin.append_ Instr.makeSlice Instr.makeMap Instr.lookup Instr.mapUpdate Instr.sliceAt convert
open Go.RowKit
theorem slsF_step (ps : List Int) (cs : List Chg) (k : Nat) (s : Sl) (h : (k : Int) < cs.length) : slsF ps (cs.drop k) k s = match slM ps s (cs.getD k default) with | none => .error (k : Int) | some s2 => slsF ps (cs.drop (k + 1)) ((k + 1 : Nat) : Int) s2 := by
  rw [dropD _ _ h, slsF]
  rfl
theorem slots_set {w : World} {ws : List Slv} {sl : List (Option Chg)} {n : Nat} {y : Slv} {t : Option Chg} {P : Option Chg → Prop} (hl : ws.length = sl.length) (hn : n < ws.length) (h : ∀ i, i < ws.length → RdSl w (ws.getD i default) (sl.getD i none) ∧ P (sl.getD i none)) (hy : RdSl w y t) (hp : P t) :
    ∀ i, i < (ws.set n y).length → RdSl w ((ws.set n y).getD i default) ((sl.set n t).getD i none) ∧ P ((sl.set n t).getD i none) := by
  intro i hi
  rw [List.length_set] at hi
  rw [List.getD_eq_getElem?_getD, List.getElem?_set, List.getD_eq_getElem?_getD, List.getElem?_set]
  by_cases e : n = i
  · subst e
    simp [hn, show n < sl.length by omega, hy, hp]
  · rw [if_neg e, if_neg e, ← List.getD_eq_getElem?_getD, ← List.getD_eq_getElem?_getD]
    exact h i hi
theorem slots_snoc {w : World} {ws : List Slv} {sl : List (Option Chg)} {y : Slv} {t : Option Chg} {P : Option Chg → Prop} (hl : ws.length = sl.length) (h : ∀ i, i < ws.length → RdSl w (ws.getD i default) (sl.getD i none) ∧ P (sl.getD i none)) (hy : RdSl w y t) (hp : P t) :
    ∀ i, i < (ws ++ [y]).length → RdSl w ((ws ++ [y]).getD i default) ((sl ++ [t]).getD i none) ∧ P ((sl ++ [t]).getD i none) := by
  intro i hi
  rw [List.length_append, List.length_singleton] at hi
  by_cases e : i < ws.length
  · rw [getD_snoc_lt _ _ _ _ e, getD_snoc_lt _ _ _ _ (by omega)]
    exact h i e
  · have e1 : i = ws.length := by omega
    subst e1
    rw [getD_snoc_eq, hl, getD_snoc_eq]
    exact ⟨hy, hp⟩
theorem set_snoc {α : Type} (l : List α) (x y : α) : (l ++ [x]).set l.length y = l ++ [y] := by
  rw [List.set_append_right _ _ (Nat.le_refl _), Nat.sub_self]
  rfl
def LenP (s : Option Chg) : Prop := ∀ c, s = some c → c.old.length ≤ 1000000 ∧ c.new.length ≤ 1000000
theorem tog_len {s : Option Chg} {c : Chg} {t : Option Chg} (h : togM s c = some t) (hs : LenP s) (hc : c.old.length ≤ 1000000 ∧ c.new.length ≤ 1000000) : LenP t := by
  cases s with
  | none => cases h; intro x e; cases e; exact hc
  | some s =>
    obtain ⟨h1, h2⟩ := hs s rfl
    simp only [togM] at h
    split at h
    · cases h
    split at h
    · split at h
      · cases h; intro x e; cases e
      · cases h; intro x e; cases e; exact ⟨h1, hc.2⟩
    split at h
    · cases h; intro x e; cases e; exact ⟨h1, by simp⟩
    split at h
    · cases h; intro x e; cases e; exact ⟨by simp, hc.2⟩
    split at h
    · cases h; intro x e; cases e
    · cases h
theorem rdSl_one {w : World} {y : Slv} {s : Option Chg} (h : RdSl w y s) : One y.2.2.1 ∧ One y.2.2.2 := by
  cases s with
  | none => simp only [RdSl] at h; subst h; exact ⟨(rd_nilV eVal w).one, (rd_nilV eVal w).one⟩
  | some c => exact ⟨h.2.2.1.one, h.2.2.2.one⟩
attribute [local irreducible] accC boxC mapC frzC frzG
def comC (T : MC) : MC := match c13 with
  | .seq a (.seq b (.seq c (.seq d (.seq e (.seq f (.seq g _)))))) => .seq a (.seq b (.seq c (.seq d (.seq e (.seq f (.seq g T))))))
  | _ => .skip
theorem comC_eq : c13 = comC comT := rfl
theorem rdV_two {w : World} {g : Nat} {t : TypeId} {va vb : Value} (h : Blk w g t [va, vb].toArray) (ha : One va) (hb : One vb) : Rd w eV (.slice (some ⟨g, 0, none⟩) 2 2) [va, vb] :=
  blk_rd (E := eV) (ys := [va, vb]) h rfl (Nat.le_refl _) (by simp) (fun u hu => by
    simp [eV] at hu
    rcases hu with rfl | rfl
    · exact ha
    · exact hb)
set_option maxHeartbeats 4000000 in
theorem compose_spec {vl vk vx vy : Value} {l : List Col} {keys : List Str} {X Y : List Chg} {sF : Sl} {w : World} (h0 : Rd w eC vl l) (h1 : Rd w eS vk keys) (hcx : RdCs w vx X) (hcy : RdCs w vy Y) (hl : ∀ c ∈ l, c.name.length ≤ 100000000000) (hk1 : keys.length ≤ 1000) (hll : l.length ≤ 1000000)
    (hfx : FineC X) (hfy : FineC Y) (hbx : X.length ≤ 100000) (hby : Y.length ≤ 100000) (hT : Tab w) (hpx : (pchkM l keys X).2 = 0) (hpy : (pchkM l keys Y).2 = 0) (hrun : slsF (placesM l keys) (X ++ Y) 0 ⟨[], fun _ => none⟩ = .ok sF) :
    Ret Tryd.prog 13 #[vl, vk, vx, vy] w (ComR w (outM sF.slots)) := by
  refine in13 ?_
  rw [comC_eq]
  have hS := Sep.start w
  have ox : One vx := by obtain ⟨vs, h, _⟩ := hcx; exact h.one
  have oy : One vy := by obtain ⟨vs, h, _⟩ := hcy; exact h.one
  have hqx := fun (w2 : World) (hx : Ext w w2) => pchk_spec (w := w2) (h0.ext hx) (h1.ext hx) (hcx.ext hx) hl hk1 hfx (hT.ext hx)
  have hqy := fun (w2 : World) (hx : Ext w w2) => pchk_spec (w := w2) (h0.ext hx) (h1.ext hx) (hcy.ext hx) hl hk1 hfy (hT.ext hx)
  obtain ⟨kok, oox⟩ := (pchk_iff _ _ _).1 hpx
  obtain ⟨_, ooy⟩ := (pchk_iff _ _ _).1 hpy
  have hne : l ≠ [] := by
    rintro rfl
    have := kok.1
    rw [List.map_nil, checkM_nil] at this
    cases this
  have hfp := plc_fine (keys := keys) hne hk1
  have hTl := fun (ls : Value) (ws : List Slv) (slots : List (Option Chg)) (n : Nat) (wl : World) (u : Fr) => @com_tail ls ws slots n w wl u
  generalize comT = T at hTl ⊢
  unfold comC c13
  dsimp only
  obtain ⟨xs, c1, m1, j1⟩ := hcx
  obtain ⟨ys, c2, m2, j2⟩ := hcy
  have hZ : ∀ i, i < (xs ++ ys).length → ((xs ++ ys).getD i default).1 = ((X ++ Y).getD i default).kind ∧ Rd w eVal ((xs ++ ys).getD i default).2.1 ((X ++ Y).getD i default).old ∧ Rd w eVal ((xs ++ ys).getD i default).2.2 ((X ++ Y).getD i default).new ∧ FineV ((X ++ Y).getD i default).old ∧ FineV ((X ++ Y).getD i default).new := by
    intro i hi
    rw [List.length_append] at hi
    by_cases e : i < xs.length
    · have e1 : (xs ++ ys).getD i default = xs.getD i default := by rw [List.getD_eq_getElem?_getD, List.getElem?_append_left e, ← List.getD_eq_getElem?_getD]
      have e2 : (X ++ Y).getD i default = X.getD i default := by rw [List.getD_eq_getElem?_getD, List.getElem?_append_left (by omega), ← List.getD_eq_getElem?_getD]
      rw [e1, e2]
      have := j1 i e
      have h := hfx i (by omega)
      exact ⟨this.1, this.2.1, this.2.2, h.1, h.2⟩
    · have e1 : (xs ++ ys).getD i default = ys.getD (i - xs.length) default := by rw [List.getD_eq_getElem?_getD, List.getElem?_append_right (by omega), ← List.getD_eq_getElem?_getD]
      have e2 : (X ++ Y).getD i default = Y.getD (i - xs.length) default := by rw [List.getD_eq_getElem?_getD, List.getElem?_append_right (by omega), ← m1, ← List.getD_eq_getElem?_getD]
      rw [e1, e2]
      have := j2 (i - xs.length) (by omega)
      have h := hfy (i - xs.length) (by omega)
      exact ⟨this.1, this.2.1, this.2.2, h.1, h.2⟩
  have hoo : ∀ c ∈ X ++ Y, oneM l.length (placesM l keys) c = 0 := fun c hc => by
    rcases List.mem_append.1 hc with h | h
    · exact oox c h
    · exact ooy c h
  have hzl : (xs ++ ys).length = (X ++ Y).length := by simp [m1, m2]
  have hzb : (X ++ Y).length ≤ 200000 := by rw [List.length_append]; omega
  have hsum : sumL [xs, ys] ≤ 1000000 := by simp [sumL]; omega
  have hcat := fun (w2 : World) (g : Nat) (hx : Ext w w2) (hb : Blk w2 g 27 [vx, vy].toArray) => concat_spec (w := w2) (us := [vx, vy]) (xss := [xs, ys]) (rdV_two hb ox oy) rfl (fun i hi => by
    cases i with
    | zero => exact c1.ext hx
    | succ i => cases i with
      | zero => exact c2.ext hx
      | succ i => (exfalso; simp only [List.length_cons, List.length_nil] at hi; omega)) hsum
  rw [show [xs, ys].flatten = xs ++ ys by simp] at hcat
  generalize pchkM l keys X = pX at *
  generalize pchkM l keys Y = pY at *
  obtain ⟨x1, x2⟩ := pX
  obtain ⟨y1, y2⟩ := pY
  simp only [] at hpx hpy
  subst hpx; subst hpy
  generalize xs ++ ys = zs at *
  generalize X ++ Y = Z at *
  repeat' (first | ((with_reducible apply G.a); exact rfl) | refine G.reg fun K hK => ?_ | (with_reducible (refine hK _ _ ?_); clear hK K) | (with_reducible (refine hK _ ?_); clear hK K; intro wd hxd; have hS := Sep.xx hxd) | ((first | have hk := hK | have hk := hK2); clear hk; simp (disch := first | exact dis | fail) only [push_cast, ↓reduceIte, Nat.reduceAdd, Nat.reduceLeDiff, Nat.reduceEqDiff, Nat.reduceLT, Int.reduceToNat, fct]) | ((first | refine brO_n ?_ ?_ | refine brQ_n ?_ ?_) <;> intro hb hc <;> first | (with_reducible exact False.elim hc) | (exfalso; omega) | (simp only [hb]; clear hb)) | ((first | refine zalc ?_ | refine zbsl ?_); intro gb wb hS) | ((with_reducible refine gSt ?_); refine zs2 ?_; intro wb hS) | ((with_reducible (show CallK _ 22 [vl, vk, vx] _ _ _ _)); refine zcp 22 (hqx _ hS.x) ?_; intro wb hS) | ((with_reducible (show CallK _ 22 [vl, vk, vy] _ _ _ _)); refine zcp 22 (hqy _ hS.x) ?_; intro wb hS) | (refine zco 23 (pfind_spec (h0.ext hS.x) (h1.ext hS.x) hk1) ?_; rintro vb wb hS2; have hS := hS2.ap; simp only [apps] at hS) | (refine zmm I ?_; intro gb wb hS) | (refine zco 37 (hcat _ _ hS.x (Sep.blk hS (by repeat constructor))) ?_; rintro vb wb hS2; have hS := hS2.ap; simp only [apps] at hS) | (refine G.drt mixed fun K hK wd hxd => ?_; have hS := Sep.xx hxd) | with_reducible refine OT_leaf ?_ | (with_reducible (refine hK2 _ ?_); clear hK2 K2; intro wd hxd; have hS := Sep.xx hxd) | with_reducible refine OT_br fun K2 hK2 => ?_ | (refine hK2 _ _ ?_ ?_ <;> clear hK2 K2) | refine G.drg mixed fun K hK => ?_ | (refine G.cn ?_ ?_ <;> intro hc <;> first | (with_reducible exact False.elim hc) | (exfalso; omega) | skip))
  all_goals
  generalize hps : placesM l keys = ps at *
  refine G.loop (fun r w' => ∃ (k : Nat) (lz lp ls : Value) (gm : Nat) (s : Sl) (ws : List Slv), k ≤ zs.length ∧ r 63 = I k ∧ r 62 = I zs.length ∧ r 61 = lz ∧ r 15 = lp ∧ r 16 = ls ∧ r 17 = .map (some gm) ∧ ws.length = s.slots.length ∧ (∀ i, i < ws.length → RdSl w (ws.getD i default) (s.slots.getD i none) ∧ LenP (s.slots.getD i none)) ∧ s.slots.length ≤ k ∧
      (∀ m n, s.at_ m = some n → 0 ≤ n ∧ n < s.slots.length) ∧ slsF ps Z 0 ⟨[], fun _ => none⟩ = slsF ps (Z.drop k) k s ∧ Sep w w' [accC ls 104 eSl ws, accC lz 34 eCg zs, mapC gm I s.at_, accC lp 3 eI ps]) (fun r _ => zs.length - toN (r 63)) ?_ ?_
  · have hS := hS.nil 104 eSl
    exact ⟨0, _, _, .slice none 0 0, _, ⟨[], fun _ => none⟩, [], Nat.zero_le _, by exact sf, by exact sf, by exact sf, by exact sf, by exact sf, by exact sf, rfl, fun i hi => by simp at hi, Nat.le_refl _, fun m n h => (by cases h), rfl, (Sep.sub hS (by repeat first | exact Sub.rfl' | exact Sub.nil0 | (refine Sub.c (by repeat constructor) ?_) | refine Sub.skip ?_))⟩
  · clear hS
    rintro u wl ⟨k, lz, lp, ls, gm, s, ws, hk, q63, q62, q61, q15, q16, q17, hwl, hwr, hsk, hat, e, hS⟩ ih
    have hm : toN (u 63) = k := by rw [q63]; simp [toN]
    by_cases hlt : (k : Int) < zs.length
    · rw [slsF_step ps Z k s (by omega), hrun] at e
      obtain ⟨y1, y2, y3, f1, f2⟩ := hZ k (by omega)
      have hoc := hoo (Z.getD k default) (getD_mem Z k (by omega))
      generalize Z.getD k default = c at e y1 y2 y3 f1 f2 hoc
      generalize hx : zs.getD k default = x at *
      obtain ⟨xk, xo, xn⟩ := x
      simp only [] at y1 y2 y3
      subst y1
      obtain ⟨p1, p2, p3, p4, p5, p6⟩ := oneM_ok hoc
      have hcl : c.old.length ≤ 1000000 ∧ c.new.length ≤ 1000000 := by
        constructor
        · by_cases h : c.kind = 3
          · rw [p2 h]; simp
          · have := (p4 h).1; omega
        · by_cases h : c.kind = 1
          · rw [p3 h]; simp
          · have := (p5 h).1; omega
      have o1 := y2.one
      have o2 := y3.one
      have hkc := fun (w2 : World) (hx : Ext w w2) (hp : Rd w2 eI lp ps) => key_spec (w := w2) (y2.ext hx) (y3.ext hx) hp f1 f2 (fun h => ⟨hfp.1, fun p hp => by have := hfp.2 p hp; have := (p4 h).1; omega⟩) (fun h => ⟨hfp.1, fun p hp => by have := hfp.2 p hp; have := (p5 (by omega)).1; omega⟩) (hT.ext hx)
      have hslm : slM ps s c = match s.at_ (keyM ps c) with | none => some ⟨s.slots ++ [some c], mput s.at_ (keyM ps c) (s.slots.length : Int)⟩ | some n => match togM (s.slots.getD n.toNat none) c with | none => none | some t => some ⟨s.slots.set n.toNat t, s.at_⟩ := rfl
      rw [hslm] at e
      clear hslm
      have hrg := hat (keyM ps c)
      generalize keyM ps c = mk at e hkc hrg
      cases ha : s.at_ mk with
      | none =>
        rw [ha] at e
        simp only [] at e
        have htog := fun (w2 : World) (hx : Ext w w2) => tog_spec (w := w2) (x := sl0) (s := none) (c := c) hx rfl y2 y3
        simp only [show togM none c = some (some c) from rfl] at htog
        have hgd : (ws ++ [sl0]).getD ws.length default = sl0 := getD_snoc_eq _ _ _
        (have fct := (And.intro @q63 (And.intro @q62 (And.intro @q61 (And.intro @q15 (And.intro @q16 (And.intro @q17 (And.intro @hx (And.intro @ha @hgd)))))))); repeat' (first | ((with_reducible apply G.a); exact rfl) | refine G.reg fun K hK => ?_ | (with_reducible (refine hK _ _ ?_); clear hK K) | (with_reducible (refine hK _ ?_); clear hK K; intro wd hxd; have hS := Sep.xx hxd) | ((first | have hk := hK | have hk := hK2); clear hk; simp (disch := first | exact dis | fail) only [push_cast, ↓reduceIte, Nat.reduceAdd, Nat.reduceLeDiff, Nat.reduceEqDiff, Nat.reduceLT, Int.reduceToNat, fct]) | ((first | refine brO_n ?_ ?_ | refine brQ_n ?_ ?_) <;> intro hb hc <;> first | (with_reducible exact False.elim hc) | (exfalso; omega) | (simp only [hb]; clear hb)) | ((first | refine zalc ?_ | refine zbsl ?_); intro gb wb hS) | ((with_reducible refine gSt ?_); refine zs2 ?_; intro wb hS) | (refine zcp 26 (hkc _ hS.x (Sep.rd hS (by repeat constructor))) ?_; intro wb hS) | (refine zlk ?_) | (refine zmu ?_; intro wb hS) | (refine zap (y := sl0) ?_ (hy := by rfl); intro vb wb hS) | (refine zco 38 (htog _ hS.x) ?_; (rintro vb wb ⟨y, rfl, hy, hxx⟩; have hS := Sep.xx hxx; have oy1 := (rdSl_one hy).1; have oy2 := (rdSl_one hy).2)) | (with_reducible refine And.intro (a := OT _ _ _ _ _) (b := OT _ _ _ _ _) ?_ ?_) | (refine zse (y := y) ?_; intro wb hS) | (refine G.drt mixed fun K hK wd hxd => ?_; have hS := Sep.xx hxd) | with_reducible refine OT_leaf ?_ | (with_reducible (refine hK2 _ ?_); clear hK2 K2; intro wd hxd; have hS := Sep.xx hxd) | with_reducible refine OT_br fun K2 hK2 => ?_ | (refine hK2 _ _ ?_ ?_ <;> clear hK2 K2) | refine G.drg mixed fun K hK => ?_ | (refine G.cn ?_ ?_ <;> intro hc <;> first | (with_reducible exact False.elim hc) | (exfalso; omega) | skip))) <;> (try clear fct)
        all_goals
          rw [Int.toNat_natCast, set_snoc] at hS
          have hnw := slots_snoc (P := LenP) hwl hwr hy (show LenP (some c) from fun x e => by cases e; exact hcl)
          have fct := (And.intro @q63 (And.intro @q62 (And.intro @q61 (And.intro @q15 (And.intro @q16 @q17))))); refine ih _ _ ⟨k + 1, lz, lp, _, gm, ⟨s.slots ++ [some c], mput s.at_ mk (s.slots.length : Int)⟩, ws ++ [y], by omega, by exact sf, by exact sf, by exact sf, by exact sf, by exact sf, by exact sf, by simp [hwl], hnw, by simp; omega, fun m n h => ?_, hrun.trans e, by rw [← hwl]; exact (Sep.sub hS (by repeat first | exact Sub.rfl' | exact Sub.nil0 | (refine Sub.c (by repeat constructor) ?_) | refine Sub.skip ?_))⟩ ?_
          · show 0 ≤ n ∧ n < ((s.slots ++ [some c]).length : Int)
            rw [List.length_append, List.length_singleton]
            simp only [mput] at h
            split at h
            · cases h; omega
            · have := hat m n h; omega
          · rw [hm]; simp only [push_cast, ↓reduceIte, Nat.reduceAdd, Nat.reduceLeDiff, Nat.reduceEqDiff, Nat.reduceLT, Int.reduceToNat, toN_i, q63, q62, q61, q15, q16, q17]; omega
      | some n =>
        rw [ha] at e
        simp only [] at e
        obtain ⟨n0, n1⟩ := hrg n ha
        obtain ⟨r1, r2⟩ := hwr n.toNat (by omega)
        cases ht : togM (s.slots.getD n.toNat none) c with
        | none => rw [ht] at e; cases e
        | some t =>
          rw [ht] at e
          simp only [] at e
          have htl := tog_len ht r2 hcl
          have htog := fun (w2 : World) (hx : Ext w w2) => tog_spec (w := w2) (c := c) hx r1 y2 y3
          simp only [ht] at htog
          generalize hgd : ws.getD n.toNat default = xw at *
          have ox1 := (rdSl_one r1).1
          have ox2 := (rdSl_one r1).2
          (have fct := (And.intro @q63 (And.intro @q62 (And.intro @q61 (And.intro @q15 (And.intro @q16 (And.intro @q17 (And.intro @hx (And.intro @ha @hgd)))))))); repeat' (first | ((with_reducible apply G.a); exact rfl) | refine G.reg fun K hK => ?_ | (with_reducible (refine hK _ _ ?_); clear hK K) | (with_reducible (refine hK _ ?_); clear hK K; intro wd hxd; have hS := Sep.xx hxd) | ((first | have hk := hK | have hk := hK2); clear hk; simp (disch := first | exact dis | fail) only [push_cast, ↓reduceIte, Nat.reduceAdd, Nat.reduceLeDiff, Nat.reduceEqDiff, Nat.reduceLT, Int.reduceToNat, fct]) | ((first | refine brO_n ?_ ?_ | refine brQ_n ?_ ?_) <;> intro hb hc <;> first | (with_reducible exact False.elim hc) | (exfalso; omega) | (simp only [hb]; clear hb)) | ((first | refine zalc ?_ | refine zbsl ?_); intro gb wb hS) | ((with_reducible refine gSt ?_); refine zs2 ?_; intro wb hS) | (refine zcp 26 (hkc _ hS.x (Sep.rd hS (by repeat constructor))) ?_; intro wb hS) | (refine zlk ?_) | (refine zmu ?_; intro wb hS) | (refine zco 38 (htog _ hS.x) ?_; (rintro vb wb ⟨y, rfl, hy, hxx⟩; have hS := Sep.xx hxx; have oy1 := (rdSl_one hy).1; have oy2 := (rdSl_one hy).2)) | (with_reducible refine And.intro (a := OT _ _ _ _ _) (b := OT _ _ _ _ _) ?_ ?_) | (refine zse (y := y) ?_; intro wb hS) | (refine G.drt mixed fun K hK wd hxd => ?_; have hS := Sep.xx hxd) | with_reducible refine OT_leaf ?_ | (with_reducible (refine hK2 _ ?_); clear hK2 K2; intro wd hxd; have hS := Sep.xx hxd) | with_reducible refine OT_br fun K2 hK2 => ?_ | (refine hK2 _ _ ?_ ?_ <;> clear hK2 K2) | refine G.drg mixed fun K hK => ?_ | (refine G.cn ?_ ?_ <;> intro hc <;> first | (with_reducible exact False.elim hc) | (exfalso; omega) | skip))) <;> (try clear fct)
          all_goals
            have hnw := slots_set (P := LenP) (n := n.toNat) hwl (by omega) hwr hy htl
            have fct := (And.intro @q63 (And.intro @q62 (And.intro @q61 (And.intro @q15 (And.intro @q16 @q17))))); refine ih _ _ ⟨k + 1, lz, lp, _, gm, ⟨s.slots.set n.toNat t, s.at_⟩, ws.set n.toNat y, by omega, by exact sf, by exact sf, by exact sf, by exact sf, by exact sf, by exact sf, by simp [hwl], hnw, by simp; omega, fun m n h => (by have := hat m n h; simp; omega), hrun.trans e, (Sep.sub hS (by repeat first | exact Sub.rfl' | exact Sub.nil0 | (refine Sub.c (by repeat constructor) ?_) | refine Sub.skip ?_))⟩ ?_
            rw [hm]; simp only [push_cast, ↓reduceIte, Nat.reduceAdd, Nat.reduceLeDiff, Nat.reduceEqDiff, Nat.reduceLT, Int.reduceToNat, toN_i, q63, q62, q61, q15, q16, q17]; omega
    · rw [List.drop_eq_nil_of_le (by omega), slsF, hrun] at e
      cases e
      clear ih
      (have fct := (And.intro @q63 (And.intro @q62 (And.intro @q61 (And.intro @q15 (And.intro @q16 @q17))))); repeat' (first | ((with_reducible apply G.a); exact rfl) | refine G.reg fun K hK => ?_ | (with_reducible (refine hK _ _ ?_); clear hK K) | (with_reducible (refine hK _ ?_); clear hK K; intro wd hxd; have hS := Sep.xx hxd) | ((first | have hk := hK | have hk := hK2); clear hk; simp (disch := first | exact dis | fail) only [push_cast, ↓reduceIte, Nat.reduceAdd, Nat.reduceLeDiff, Nat.reduceEqDiff, Nat.reduceLT, Int.reduceToNat, fct]) | ((first | refine brO_n ?_ ?_ | refine brQ_n ?_ ?_) <;> intro hb hc <;> first | (with_reducible exact False.elim hc) | (exfalso; omega) | (simp only [hb]; clear hb)) | ((first | refine zalc ?_ | refine zbsl ?_); intro gb wb hS) | ((with_reducible refine gSt ?_); refine zs2 ?_; intro wb hS) | (refine G.drt mixed fun K hK wd hxd => ?_; have hS := Sep.xx hxd) | with_reducible refine OT_leaf ?_ | (with_reducible (refine hK2 _ ?_); clear hK2 K2; intro wd hxd; have hS := Sep.xx hxd) | with_reducible refine OT_br fun K2 hK2 => ?_ | (refine hK2 _ _ ?_ ?_ <;> clear hK2 K2) | refine G.drg mixed fun K hK => ?_ | (refine G.cn ?_ ?_ <;> intro hc <;> first | (with_reducible exact False.elim hc) | (exfalso; omega) | skip))) <;> (try clear fct)
      all_goals
        exact hTl ls ws sF.slots _ _ _ hwl hwr (by omega) (by simp only [push_cast, ↓reduceIte, Nat.reduceAdd, Nat.reduceLeDiff, Nat.reduceEqDiff, Nat.reduceLT, Int.reduceToNat, q63, q62, q61, q15, q16, q17]) (Sep.sub hS (by repeat first | exact Sub.rfl' | exact Sub.nil0 | (refine Sub.c (by repeat constructor) ?_) | refine Sub.skip ?_))
end Go.Proofs.YtjajihaeoolefaaDoor
