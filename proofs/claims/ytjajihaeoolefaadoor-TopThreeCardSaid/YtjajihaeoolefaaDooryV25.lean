/- Texts of the proof, joined. -/
import Derived.Test.YtjajihaeoolefaaDooryP25
namespace Go.Proofs.YtjajihaeoolefaaDoor
set_option linter.unusedSimpArgs false
set_option linter.unusedVariables false
open Go.RowKit
def togM : Option Chg → Chg → Option (Option Chg)
  | none, c => some (some c)
  | some s, c => if s.new ≠ c.old then none else if (s.kind = 1 ∧ c.kind = 3) ∨ (s.kind = 2 ∧ c.kind = 2) then (if s.old = c.new then some none else some (some ⟨2, s.old, c.new⟩))
    else if s.kind = 2 ∧ c.kind = 1 then some (some ⟨1, s.old, []⟩) else if s.kind = 3 ∧ c.kind = 2 then some (some ⟨3, [], c.new⟩) else if s.kind = 3 ∧ c.kind = 1 then some none else none
theorem tog_chg (a b c : Option (List Val)) (y : Chg) (h : chgM b c = some y) : togM (chgM a b) y = some (chgM a c) := by
  cases b with
  | none =>
    cases c with
    | none => cases h
    | some t =>
      cases h
      cases a with
      | none => rfl
      | some r =>
        simp only [chgM, togM]
        by_cases e : r = t
        · simp [e]
        · simp [e]
  | some s =>
    cases c with
    | none =>
      cases h
      cases a with
      | none => simp [chgM, togM]
      | some r =>
        by_cases e : r = s
        · subst e; simp [chgM, togM]
        · simp [chgM, togM, e]
    | some t =>
      simp only [chgM] at h
      split at h
      · cases h
      rename_i hst
      cases h
      cases a with
      | none => simp [chgM, togM]
      | some r =>
        by_cases e : r = s
        · subst e; simp [chgM, togM, hst]
        · by_cases e2 : r = t
          · subst e2; simp [chgM, togM, e]
          · simp [chgM, togM, e, e2]
theorem chg_same {a b c : Option (List Val)} (h : chgM b c = none) : chgM a b = chgM a c := by
  have : b = c := by
    cases b with
    | none => cases c with
      | none => rfl
      | some t => cases h
    | some s => cases c with
      | none => cases h
      | some t =>
        simp only [chgM] at h
        split at h
        · rename_i e; rw [e]
        · cases h
  rw [this]
structure Sl where
  slots : List (Option Chg)
  at_ : Str → Option Int
def valM (s : Sl) (m : Str) : Option Chg := match s.at_ m with | none => none | some n => s.slots.getD n.toNat none
def slM (ps : List Int) (s : Sl) (c : Chg) : Option Sl :=
  match s.at_ (keyM ps c) with
  | none => some ⟨s.slots ++ [some c], mput s.at_ (keyM ps c) (s.slots.length : Int)⟩
  | some n => match togM (s.slots.getD n.toNat none) c with
    | none => none
    | some t => some ⟨s.slots.set n.toNat t, s.at_⟩
def slsF (ps : List Int) : List Chg → Int → Sl → Except Int Sl
  | [], _, s => .ok s
  | c :: cs, i, s => match slM ps s c with
    | none => .error i
    | some s2 => slsF ps cs (i + 1) s2
def oldM (s : Option Chg) : Option Chg := match s with | some c => if c.kind = 3 then none else some c | none => none
def newM3 (s : Option Chg) : Option Chg := match s with | some c => if c.kind = 3 then some c else none | none => none
def outM (l : List (Option Chg)) : List Chg := l.filterMap oldM ++ l.filterMap newM3
structure SlOk (ks : List Str) (s : Sl) : Prop where
  len : ks.length = s.slots.length
  nd : ks.Nodup
  at_ : ∀ m (n : Int), s.at_ m = some n ↔ ∃ j : Nat, n = j ∧ ks[j]? = some m
theorem sl_step {ps : List Int} {ks : List Str} {s : Sl} {c : Chg} {t : Option Chg} (hs : SlOk ks s) (h : togM (valM s (keyM ps c)) c = some t) : ∃ s' ks', slM ps s c = some s' ∧ SlOk ks' s' ∧ ∀ m, valM s' m = if m = keyM ps c then t else valM s m := by
  unfold slM
  generalize keyM ps c = k at *
  cases ha : s.at_ k with
  | none =>
    have hv : valM s k = none := by unfold valM; rw [ha]
    rw [hv] at h
    cases h
    have hk : k ∉ ks := fun hm => by
      obtain ⟨j, hj, e⟩ := List.mem_iff_getElem.1 hm
      have := (hs.at_ k j).2 ⟨j, rfl, by rw [List.getElem?_eq_getElem hj, e]⟩
      rw [ha] at this; cases this
    refine ⟨_, ks ++ [k], rfl, ⟨by simp [hs.len], ?_, fun m n => ?_⟩, fun m => ?_⟩
    · rw [List.nodup_append]
      exact ⟨hs.nd, by simp, fun x hx y hy e => by rw [List.mem_singleton.1 hy] at e; exact hk (e ▸ hx)⟩
    · simp only [mput]
      by_cases hm : m = k
      · rw [if_pos hm]
        constructor
        · intro e; cases e; exact ⟨s.slots.length, rfl, by rw [← hs.len]; simp [hm]⟩
        · rintro ⟨j, rfl, hj⟩
          by_cases hjl : j < ks.length
          · rw [List.getElem?_append_left hjl] at hj
            exact absurd (by rw [← hm]; exact List.mem_of_getElem? hj) hk
          · by_cases hje : j = ks.length
            · rw [hje, hs.len]
            · rw [List.getElem?_eq_none (by simp; omega)] at hj; cases hj
      · rw [if_neg hm, hs.at_]
        constructor
        · rintro ⟨j, rfl, hj⟩
          have hjl : j < ks.length := (List.getElem?_eq_some_iff.1 hj).1
          exact ⟨j, rfl, by rw [List.getElem?_append_left hjl]; exact hj⟩
        · rintro ⟨j, rfl, hj⟩
          by_cases hjl : j < ks.length
          · rw [List.getElem?_append_left hjl] at hj; exact ⟨j, rfl, hj⟩
          · by_cases hje : j = ks.length
            · rw [hje] at hj; simp at hj; exact absurd hj.symm hm
            · rw [List.getElem?_eq_none (by simp; omega)] at hj; cases hj
    · unfold valM
      simp only [mput]
      by_cases hm : m = k
      · rw [if_pos hm, if_pos hm]
        simp only []
        rw [Int.toNat_natCast, List.getD_eq_getElem?_getD]
        simp
      · rw [if_neg hm, if_neg hm]
        cases hb : s.at_ m with
        | none => rfl
        | some n =>
          obtain ⟨j, rfl, hj⟩ := (hs.at_ m n).1 hb
          have hjl : j < ks.length := (List.getElem?_eq_some_iff.1 hj).1
          simp only [Int.toNat_natCast]
          rw [List.getD_eq_getElem?_getD, List.getElem?_append_left (by rw [← hs.len]; exact hjl), ← List.getD_eq_getElem?_getD]
  | some n =>
    have hv : valM s k = s.slots.getD n.toNat none := by unfold valM; rw [ha]
    rw [hv] at h
    simp only []
    rw [h]
    obtain ⟨j, rfl, hj⟩ := (hs.at_ k n).1 ha
    have hjl : j < ks.length := (List.getElem?_eq_some_iff.1 hj).1
    refine ⟨_, ks, rfl, ⟨by simp [hs.len], hs.nd, hs.at_⟩, fun m => ?_⟩
    unfold valM
    simp only []
    by_cases hm : m = k
    · rw [if_pos hm, hm, ha]
      simp only [Int.toNat_natCast]
      rw [List.getD_eq_getElem?_getD, List.getElem?_set]
      have := hs.len
      simp [show j < s.slots.length by omega]
    · rw [if_neg hm]
      cases hb : s.at_ m with
      | none => rfl
      | some n =>
        obtain ⟨i, rfl, hi⟩ := (hs.at_ m n).1 hb
        simp only [Int.toNat_natCast]
        have hij : j ≠ i := fun e => by rw [e, hi] at hj; cases hj; exact hm rfl
        rw [List.getD_eq_getElem?_getD, List.getElem?_set, if_neg hij, ← List.getD_eq_getElem?_getD]
theorem sls_run {ps : List Int} (f : Chg → Option Chg) : ∀ (D : List Chg) (i : Int) (ks : List Str) (s : Sl), SlOk ks s → (D.map (keyM ps)).Nodup → (∀ c ∈ D, togM (valM s (keyM ps c)) c = some (f c)) →
    ∃ s' ks', slsF ps D i s = .ok s' ∧ SlOk ks' s' ∧ (∀ c ∈ D, valM s' (keyM ps c) = f c) ∧ ∀ m, (∀ c ∈ D, keyM ps c ≠ m) → valM s' m = valM s m
  | [], i, ks, s, hs, _, _ => ⟨s, ks, rfl, hs, fun c hc => by simp at hc, fun m _ => rfl⟩
  | c :: D, i, ks, s, hs, hn, ht => by
    rw [List.map_cons, List.nodup_cons] at hn
    obtain ⟨s1, k1, e1, o1, v1⟩ := sl_step hs (ht c (by simp))
    have hne : ∀ x ∈ D, keyM ps x ≠ keyM ps c := fun x hx e => hn.1 (List.mem_map.2 ⟨x, hx, e⟩)
    obtain ⟨s2, k2, e2, o2, v2, v3⟩ := sls_run f D (i + 1) k1 s1 o1 hn.2 (fun x hx => by rw [v1, if_neg (hne x hx)]; exact ht x (List.mem_cons_of_mem _ hx))
    refine ⟨s2, k2, by rw [slsF, e1]; exact e2, o2, fun x hx => ?_, fun m hm => ?_⟩
    · rcases List.mem_cons.1 hx with rfl | hx
      · rw [v3 _ hne, v1, if_pos rfl]
      · exact v2 x hx
    · rw [v3 m (fun x hx => hm x (List.mem_cons_of_mem _ hx)), v1, if_neg (fun e => hm c (by simp) e.symm)]
theorem sls_app (ps : List Int) : ∀ (D E : List Chg) (i : Int) (s s' : Sl), slsF ps D i s = .ok s' → slsF ps (D ++ E) i s = slsF ps E (i + D.length) s'
  | [], E, i, s, s', h => by cases h; simp
  | c :: D, E, i, s, s', h => by
    rw [slsF] at h
    rw [List.cons_append, slsF]
    cases e : slM ps s c with
    | none => rw [e] at h; cases h
    | some s1 =>
      rw [e] at h
      simp only [] at h ⊢
      rw [sls_app ps D E (i + 1) s1 s' h]
      congr 1
      simp; omega
theorem outM_perm : ∀ (l : List (Option Chg)), (outM l).Perm (l.filterMap id)
  | [] => List.Perm.refl _
  | none :: l => outM_perm l
  | some c :: l => by
    have ih := outM_perm l
    unfold outM at ih ⊢
    by_cases h : c.kind = 3
    · have e1 : (some c :: l).filterMap oldM = l.filterMap oldM := by simp [List.filterMap_cons, oldM, h]
      have e2 : (some c :: l).filterMap newM3 = c :: l.filterMap newM3 := by simp [List.filterMap_cons, newM3, h]
      have e3 : (some c :: l).filterMap id = c :: l.filterMap id := by simp
      rw [e1, e2, e3]
      exact List.perm_middle.trans (ih.cons c)
    · have e1 : (some c :: l).filterMap oldM = c :: l.filterMap oldM := by simp [List.filterMap_cons, oldM, h]
      have e2 : (some c :: l).filterMap newM3 = l.filterMap newM3 := by simp [List.filterMap_cons, newM3, h]
      have e3 : (some c :: l).filterMap id = c :: l.filterMap id := by simp
      rw [e1, e2, e3, List.cons_append]
      exact ih.cons c
theorem getD_memL {α : Type} (l : List α) (k : Nat) (d : α) (h : k < l.length) : l.getD k d ∈ l := by
  rw [List.getD_eq_getElem?_getD, List.getElem?_eq_getElem h]; exact List.getElem_mem h
theorem out_mem {ks : List Str} {s : Sl} (hs : SlOk ks s) (c : Chg) : c ∈ outM s.slots ↔ ∃ m, valM s m = some c := by
  rw [(outM_perm _).mem_iff, List.mem_filterMap]
  constructor
  · rintro ⟨x, hx, e⟩
    simp at e
    subst e
    obtain ⟨j, hj, e⟩ := List.mem_iff_getElem.1 hx
    have hjk : j < ks.length := by rw [hs.len]; exact hj
    refine ⟨ks[j], ?_⟩
    unfold valM
    rw [(hs.at_ ks[j] j).2 ⟨j, rfl, List.getElem?_eq_getElem hjk⟩]
    simp only [Int.toNat_natCast]
    rw [List.getD_eq_getElem?_getD, List.getElem?_eq_getElem hj, e]
    rfl
  · rintro ⟨m, h⟩
    unfold valM at h
    cases e : s.at_ m with
    | none => rw [e] at h; cases h
    | some n =>
      rw [e] at h
      simp only [] at h
      refine ⟨some c, ?_, rfl⟩
      rw [← h]
      obtain ⟨j, rfl, hj⟩ := (hs.at_ m n).1 e
      have hjl : j < ks.length := (List.getElem?_eq_some_iff.1 hj).1
      exact getD_memL _ _ _ (by simp; rw [← hs.len]; exact hjl)
theorem out_sub (ps : List Int) : ∀ (l : List (Option Chg)) (ks : List Str), ks.length = l.length → (∀ (i : Nat) (c : Chg), l[i]? = some (some c) → ks[i]? = some (keyM ps c)) → ((l.filterMap id).map (keyM ps)).Sublist ks
  | [], [], _, _ => List.Sublist.refl _
  | [], _ :: _, h, _ => by simp at h
  | _ :: _, [], h, _ => by simp at h
  | x :: l, k :: ks, h, hk => by
    have ih := out_sub ps l ks (by simpa using h) (fun i c e => by have := hk (i + 1) c (by simpa using e); simpa using this)
    cases x with
    | none => simpa using ih.cons k
    | some c =>
      have := hk 0 c rfl
      simp at this
      rw [show (some c :: l).filterMap id = c :: l.filterMap id by simp, List.map_cons, this]
      exact ih.cons_cons _
theorem out_keys {ps : List Int} {ks : List Str} {s : Sl} (hs : SlOk ks s) (hv : ∀ m c, valM s m = some c → keyM ps c = m) : ((outM s.slots).map (keyM ps)).Nodup := by
  refine ((outM_perm s.slots).map (keyM ps)).nodup_iff.2 ?_
  refine List.Nodup.sublist (out_sub ps s.slots ks hs.len fun i c e => ?_) hs.nd
  have hi : i < ks.length := by rw [hs.len]; exact (List.getElem?_eq_some_iff.1 e).1
  rw [List.getElem?_eq_getElem hi]
  congr 1
  refine (hv ks[i] c ?_).symm
  unfold valM
  rw [(hs.at_ ks[i] i).2 ⟨i, rfl, List.getElem?_eq_getElem hi⟩]
  simp only [Int.toNat_natCast]
  rw [List.getD_eq_getElem?_getD, e]
  rfl
theorem dif_iff {ps : List Int} {ra rb : List (List Val)} (ha : KeyD ps ra) (hb : KeyD ps rb) (c : Chg) : c ∈ difM ps ra rb ↔ chgM (getR ps ra (keyM ps c)) (getR ps rb (keyM ps c)) = some c := by
  rw [dif_mem ha hb]
  constructor
  · rintro ⟨m, h⟩
    rw [chg_key h]; exact h
  · intro h; exact ⟨_, h⟩
theorem nodup_map {ps : List Int} {D : List Chg} (h : (D.map (keyM ps)).Nodup) : D.Nodup := List.Pairwise.of_map (keyM ps) (fun a b hne e => hne (by rw [e])) h
theorem compose_ok {ps : List Int} {ra rb rc : List (List Val)} (ha : KeyD ps ra) (hb : KeyD ps rb) (hc : KeyD ps rc) :
    ∃ s, slsF ps (difM ps ra rb ++ difM ps rb rc) 0 ⟨[], fun _ => none⟩ = .ok s ∧ (outM s.slots).Perm (difM ps ra rc) := by
  have o0 : SlOk [] ⟨[], fun _ => none⟩ := ⟨rfl, List.nodup_nil, fun m n => by simp⟩
  have v0 : ∀ m, valM ⟨[], fun _ => none⟩ m = none := fun m => rfl
  obtain ⟨s1, k1, e1, o1, p1, q1⟩ := sls_run (ps := ps) some (difM ps ra rb) 0 [] _ o0 (dif_keys ha hb) (fun c hc => by rw [v0]; rfl)
  have w1 : ∀ m, valM s1 m = chgM (getR ps ra m) (getR ps rb m) := fun m => by
    cases e : chgM (getR ps ra m) (getR ps rb m) with
    | none =>
      rw [q1 m (fun c hc hm => ?_), v0]
      rw [dif_iff ha hb, hm, e] at hc
      cases hc
    | some c =>
      have hk := chg_key e
      have := p1 c ((dif_mem ha hb c).2 ⟨m, e⟩)
      rwa [hk] at this
  obtain ⟨s2, k2, e2, o2, p2, q2⟩ := sls_run (ps := ps) (fun c => chgM (getR ps ra (keyM ps c)) (getR ps rc (keyM ps c))) (difM ps rb rc) (0 + (difM ps ra rb).length) k1 s1 o1 (dif_keys hb hc) (fun c hm => by
    rw [w1]
    exact tog_chg _ _ _ c ((dif_iff hb hc c).1 hm))
  have w2 : ∀ m, valM s2 m = chgM (getR ps ra m) (getR ps rc m) := fun m => by
    cases e : chgM (getR ps rb m) (getR ps rc m) with
    | none =>
      rw [q2 m (fun c hcm hm => ?_), w1, chg_same e]
      rw [dif_iff hb hc, hm, e] at hcm
      cases hcm
    | some c =>
      have hk := chg_key e
      have := p2 c ((dif_mem hb hc c).2 ⟨m, e⟩)
      rwa [hk] at this
  refine ⟨s2, by rw [sls_app ps _ _ 0 _ s1 e1]; exact e2, ?_⟩
  have hkk : ∀ m c, valM s2 m = some c → keyM ps c = m := fun m c h => by rw [w2] at h; exact chg_key h
  rw [List.perm_ext_iff_of_nodup (nodup_map (out_keys o2 hkk)) (nodup_map (dif_keys ha hc))]
  intro c
  rw [out_mem o2, dif_mem ha hc]
  simp only [w2]
theorem chg_one {n : Int} {ps : List Int} {ra rb : List (List Val)} (ha : RowsOk n ps ra) (hb : RowsOk n ps rb) {c : Chg} (h : c ∈ difM ps ra rb) : oneM n ps c = 0 := by
  obtain ⟨m, h⟩ := (dif_mem ha.d hb.d c).1 h
  refine oneM_mk ?_
  cases e1 : getR ps ra m with
  | none =>
    cases e2 : getR ps rb m with
    | none => rw [e1, e2] at h; cases h
    | some s =>
      rw [e1, e2] at h; cases h
      exact ⟨by simp, fun _ => rfl, fun e => by simp at e, fun e => absurd rfl e, fun _ => hb.w s (getR_some e2).1, fun e => by simp at e⟩
  | some r =>
    cases e2 : getR ps rb m with
    | none =>
      rw [e1, e2] at h; cases h
      exact ⟨by simp, fun e => by simp at e, fun _ => rfl, fun _ => ha.w r (getR_some e1).1, fun e => absurd rfl e, fun e => by simp at e⟩
    | some s =>
      rw [e1, e2] at h
      simp only [chgM] at h
      split at h
      · cases h
      · cases h
        exact ⟨by simp, fun e => by simp at e, fun e => by simp at e, fun _ => ha.w r (getR_some e1).1, fun _ => hb.w s (getR_some e2).1, fun _ => (getR_some e1).2.trans (getR_some e2).2.symm⟩
theorem apply_run {n : Int} {ps : List Int} {T : List (List Val)} (hT : RowsOk n ps T) : ∀ (D : List Chg) (R : List (List Val)), RowsOk n ps R → (D.map (keyM ps)).Nodup → (∀ c ∈ D, oneM n ps c = 0) → (∀ c ∈ D, chgM (getR ps R (keyM ps c)) (getR ps T (keyM ps c)) = some c) → (∀ m, (∀ c ∈ D, keyM ps c ≠ m) → getR ps R m = getR ps T m) → Stps ps R D T
  | [], R, hR, _, _, _, hm => .nil (perm_of_get hR.d hT.d fun m => hm m (fun c hc => by simp at hc))
  | c :: D, R, hR, hn, ho, hc, hm => by
    rw [List.map_cons, List.nodup_cons] at hn
    have hne : ∀ x ∈ D, keyM ps x ≠ keyM ps c := fun x hx e => hn.1 (List.mem_map.2 ⟨x, hx, e⟩)
    have hcc := hc c (by simp)
    have step : ∃ R1, Stp ps R c R1 ∧ ∀ m, getR ps R1 m = if m = keyM ps c then getR ps T m else getR ps R m := by
      generalize hk : keyM ps c = k at *
      cases e1 : getR ps R k with
      | none =>
        cases e2 : getR ps T k with
        | none => rw [e1, e2] at hcc; cases hcc
        | some s =>
          rw [e1, e2] at hcc; cases hcc
          obtain ⟨s1, s2⟩ := getR_some e2
          refine ⟨s :: R, .inl ⟨rfl, fun r hr => ?_, List.Perm.refl _⟩, fun m => ?_⟩
          · rw [s2]; exact getR_none.1 e1 r hr
          · rw [getR_cons, s2]
            by_cases h : m = k
            · rw [if_pos h.symm, if_pos h, h, e2]
            · rw [if_neg (Ne.symm h), if_neg h]
      | some r =>
        obtain ⟨r1, r2⟩ := getR_some e1
        obtain ⟨Q, hQ⟩ : ∃ Q, R.Perm (r :: Q) := ⟨_, List.perm_cons_erase r1⟩
        have hD := hR.d.perm hQ
        have hq : ∀ m, getR ps Q m = if m = k then none else getR ps R m := fun m => by
          rw [getR_perm hR.d hQ, getR_cons, r2]
          by_cases h : m = k
          · rw [if_pos h]
            refine getR_none.2 fun x hx e => ?_
            exact hD.head x hx (by rw [e, r2, h])
          · rw [if_neg h, if_neg (Ne.symm h)]
        cases e2 : getR ps T k with
        | none =>
          rw [e1, e2] at hcc; cases hcc
          refine ⟨Q, .inr (.inl ⟨rfl, hQ⟩), fun m => ?_⟩
          rw [hq]
          by_cases h : m = k
          · rw [if_pos h, if_pos h, h, e2]
          · rw [if_neg h, if_neg h]
        | some s =>
          obtain ⟨s1, s2⟩ := getR_some e2
          rw [e1, e2] at hcc
          simp only [chgM] at hcc
          split at hcc
          · cases hcc
          cases hcc
          refine ⟨s :: Q, .inr (.inr ⟨rfl, Q, hQ, List.Perm.refl _⟩), fun m => ?_⟩
          rw [getR_cons, s2, hq]
          by_cases h : m = k
          · rw [if_pos h.symm, if_pos h, h, e2]
          · rw [if_neg (Ne.symm h), if_neg h, if_neg h]
    obtain ⟨R1, h1, h2⟩ := step
    refine .cons h1 (apply_run hT D R1 (h1.ok (ho c (by simp)) hR) hn.2 (fun x hx => ho x (List.mem_cons_of_mem _ hx)) (fun x hx => ?_) (fun m hx => ?_))
    · rw [h2, if_neg (hne x hx)]; exact hc x (List.mem_cons_of_mem _ hx)
    · rw [h2]
      by_cases h : m = keyM ps c
      · rw [if_pos h]
      · rw [if_neg h]
        exact hm m fun x hx' => by
          rcases List.mem_cons.1 hx' with rfl | hx'
          · exact Ne.symm h
          · exact hx x hx'
theorem apply_dif {n : Int} {ps : List Int} {ra rb : List (List Val)} {D : List Chg} (ha : RowsOk n ps ra) (hb : RowsOk n ps rb) (hD : D.Perm (difM ps ra rb)) : (∀ c ∈ D, oneM n ps c = 0) ∧ Stps ps ra D rb := by
  have h1 : ∀ c ∈ D, oneM n ps c = 0 := fun c hc => chg_one ha hb (hD.mem_iff.1 hc)
  refine ⟨h1, apply_run hb D ra ha ((hD.map (keyM ps)).nodup_iff.2 (dif_keys ha.d hb.d)) h1 (fun c hc => (dif_iff ha.d hb.d c).1 (hD.mem_iff.1 hc)) (fun m hm => ?_)⟩
  cases e : chgM (getR ps ra m) (getR ps rb m) with
  | some c => exact absurd (chg_key e) (hm c (hD.mem_iff.2 ((dif_mem ha.d hb.d c).2 ⟨m, e⟩)))
  | none =>
    have := chg_same (a := none) e
    cases h1 : getR ps ra m <;> cases h2 : getR ps rb m <;> rw [h1, h2] at e <;> simp [chgM] at e ⊢
    exact e
end Go.Proofs.YtjajihaeoolefaaDoor
