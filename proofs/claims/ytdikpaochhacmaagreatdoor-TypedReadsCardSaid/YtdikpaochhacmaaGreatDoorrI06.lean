/- Texts of the proof, joined. -/
import Derived.Test.YtdikpaochhacmaaGreatDoorrH06
namespace Go.Proofs.YtdikpaochhacmaaGreatDoor
set_option linter.unusedSimpArgs false
set_option linter.unusedVariables false
attribute [local irreducible] SemK UnitK StK AlcK BslK CallK CallV Instr.box Builtin.append_ Instr.makeSlice Instr.makeMap Instr.lookup Instr.mapUpdate Instr.sliceAt convert
open Go.RowKit
theorem mrun_len (d : Dl) (l : Lm) : ∀ (t : Str) (st : Int) (m : Mk) (p : Nat), (mrun d l st m p t).rs.length ≤ t.length + 1 := by
  intro t
  induction t with
  | nil =>
    intro st m p
    rw [mrun]
    cases h : endR l st m with
    | error k => simp
    | ok r => cases r <;> simp [oneR]
  | cons b t ih =>
    intro st m p
    rw [mrun]
    cases h : stepR d l st m b with
    | error k => simp
    | ok x =>
      have := ih x.1 x.2.1 (p + 1)
      obtain ⟨x1, x2, x3⟩ := x
      cases x3 <;> simp [Rs.pre, oneR] <;> simp only at this <;> omega
theorem sc_k (d : Dl) (st : Int) (b : UInt8) : (scM d st b).2.2 = 0 ∨ 4 ≤ (scM d st b).2.2 := by
  unfold scM startM inM
  repeat' split
  all_goals simp
theorem gather_k {l : Lm} {m : Mk} {e : Ev} {k : Int} (h : gather l m e = .error k) : 4 ≤ k := by
  unfold gather at h
  split at h
  · rename_i h1; injection h with h; subst h; rw [gb_err h1]; decide
  · split at h
    · rename_i h1; injection h with h; subst h; rw [ga_err h1]; decide
    · split at h
      · rename_i h1; injection h with h; subst h; rcases gf_err h1 with h2 | h2 <;> rw [h2] <;> decide
      · rw [gl_err h]; decide
theorem take_k {l : Lm} {m : Mk} {e : Ev} {k : Int} (h : takeM l m e = .error k) : 4 ≤ k := by
  unfold takeM at h
  split at h
  · rename_i h2; simp at h; subst h; exact gather_k h2
  · split at h <;> simp at h
theorem step_k {d : Dl} {l : Lm} {st : Int} {m : Mk} {b : UInt8} {k : Int} (h : stepR d l st m b = .error k) : 4 ≤ k := by
  unfold stepR at h
  split at h
  · simp at h; have := sc_k d st b; omega
  · split at h
    · rename_i h2; simp at h; subst h; exact take_k h2
    · simp at h
theorem close_k (st : Int) : (closeM st).2 = 0 ∨ 4 ≤ (closeM st).2 := by
  unfold closeM
  repeat' split
  all_goals simp
theorem end_k {l : Lm} {st : Int} {m : Mk} {k : Int} (h : endR l st m = .error k) : 4 ≤ k := by
  unfold endR at h
  split at h
  · simp at h; have := close_k st; omega
  · split at h
    · rename_i h2; simp at h; subst h; exact take_k h2
    · simp at h
theorem mrun_k (d : Dl) (l : Lm) : ∀ (t : Str) (st : Int) (m : Mk) (p : Nat), (mrun d l st m p t).k = 0 ∨ 4 ≤ (mrun d l st m p t).k := by
  intro t
  induction t with
  | nil =>
    intro st m p
    rw [mrun]
    cases h : endR l st m with
    | error k => exact .inr (end_k h)
    | ok r => exact .inl rfl
  | cons b t ih =>
    intro st m p
    rw [mrun]
    cases h : stepR d l st m b with
    | error k => exact .inr (step_k h)
    | ok x => exact ih _ _ _
section
variable {d : Dl} {l : Lm} {s : Str} {w w0 : World}
set_option maxHeartbeats 1000000 in
theorem rparse_spec (hr : Rt d) (hl : s.length ≤ 900000) (hF : 1 ≤ l.F) (hN : 1 ≤ l.N) (hR0 : 0 ≤ l.R) (hRR : l.R ≤ 2147483648) :
    Ret Tryz.prog 35 #[(.agg #[I d.dl, I d.q, I d.e]), (.agg #[I l.F, I l.N, I l.R, I (if l.U = true then 1 else 0)]), S s] w fun res w' => ∃ v vs, res = .tuple #[v, I (parM d l s).k, I (parM d l s).a] ∧ Sep w w' [accC v 49 eV vs, frzC eS vs (List.map Prod.fst (parM d l s).rs)] := by
  refine in35 ?_
  have hS := Sep.start w
  have hfin := par_fin d l s
  obtain ⟨hsd, hsl⟩ := strip_drop s
  have hread := fun w => rread_spec (w := w) (s := stripM s) hr (by omega) hF hN hR0 hRR
  have hme := mrun_ends d l (stripM s) 0 {} 0
  have hlen := mrun_len d l (stripM s) 0 {} 0
  have hmk := mrun_k d l (stripM s) 0 {} 0
  have e0 : rn d l (stripM s) 0 {} 0 = mrun d l 0 {} 0 (stripM s) := rfl
  rw [← e0] at hme hlen hmk
  clear e0
  generalize hoff : s.length - (stripM s).length = off at *
  generalize rn d l (stripM s) 0 {} 0 = g at *
  have hI : (s.length : Int) - ((stripM s).length : Int) = off := by omega
  obtain ⟨m1, m2, m3⟩ := hme
  have hend : ∀ x ∈ g.rs, x.2 ≤ 1000000 := fun x hx => by have := (m1 x hx).2.1; omega
  have ha : g.a ≤ 900000 := by
    by_cases h : g.k = 0
    · have := m3 h; omega
    · have := (m2 h).2.2; omega
  by_cases hk : g.k = 0
  · by_cases hb : 0 ≤ rbadM s
    · have hK : refKA s g off = (3, rbadM s) := by simp [refKA, hk, hb]
      rw [hK] at hfin
      obtain ⟨f1, f2, f3⟩ := hfin
      (have fct := @hI; repeat' (first | ((with_reducible apply G.a); exact rfl) | refine G.reg fun K hK => ?_ | (with_reducible (refine hK _ _ ?_); clear hK K) | (with_reducible (refine hK _ ?_); clear hK K; intro wd hxd; have hS := Sep.xx hxd) | (have hk := hK; clear hk; simp (disch := first | exact dis | fail) only [push_cast, ↓reduceIte, Nat.reduceAdd, Nat.reduceLeDiff, Nat.reduceEqDiff, Nat.reduceLT, Int.reduceToNat, fct]) | ((first | refine brO_n ?_ ?_ | refine brQ_n ?_ ?_) <;> intro hb hc <;> first | (with_reducible exact False.elim hc) | (exfalso; omega) | (simp only [hb]; clear hb)) | ((first | refine zalc ?_ | refine zbsl ?_ | ((with_reducible refine gBox ?_); refine zbox ?_)); intro gb wb hS) | ((with_reducible refine gSt ?_); refine zs2 ?_; intro wb hS) | (refine zcp 61 (stripR_spec s _ (by omega)) ?_; intro wb hS) | (refine zco 62 (hread _) ?_; rintro vb wb ⟨Rv, Ev, vs, rfl, hS2⟩; have hS := hS2.ap; simp only [apps] at hS) | (refine zcp 63 (rbad_spec s _ (by omega)) ?_; intro wb hS) | (refine zcp 59 (whole_spec s _ (by omega)) ?_; intro wb hS) | refine G.drg mixed fun K hK => ?_ | (refine G.cn ?_ ?_ <;> intro hc <;> first | (with_reducible exact False.elim hc) | (exfalso; omega) | skip))) <;> (try clear fct)
      all_goals
        exact rparse_tail (g := g) (gg := gb) (Rv := Rv) (Ev := Ev) (vs := vs) (L := []) (K := 3) (A := rbadM s) (off := off) (by simp only [push_cast, ↓reduceIte, Nat.reduceAdd, Nat.reduceLeDiff, Nat.reduceEqDiff, Nat.reduceLT, Int.reduceToNat, hI]) (by simp only [push_cast, ↓reduceIte, Nat.reduceAdd, Nat.reduceLeDiff, Nat.reduceEqDiff, Nat.reduceLT, Int.reduceToNat]) (by simp only [push_cast, ↓reduceIte, Nat.reduceAdd, Nat.reduceLeDiff, Nat.reduceEqDiff, Nat.reduceLT, Int.reduceToNat]) (by simp only [push_cast, ↓reduceIte, Nat.reduceAdd, Nat.reduceLeDiff, Nat.reduceEqDiff, Nat.reduceLT, Int.reduceToNat]) (by simp only [push_cast, ↓reduceIte, Nat.reduceAdd, Nat.reduceLeDiff, Nat.reduceEqDiff, Nat.reduceLT, Int.reduceToNat]) (by simp only [push_cast, ↓reduceIte, Nat.reduceAdd, Nat.reduceLeDiff, Nat.reduceEqDiff, Nat.reduceLT, Int.reduceToNat] <;> rfl) (by simp only [push_cast, ↓reduceIte, Nat.reduceAdd, Nat.reduceLeDiff, Nat.reduceEqDiff, Nat.reduceLT, Int.reduceToNat]) (by simp only [push_cast, ↓reduceIte, Nat.reduceAdd, Nat.reduceLeDiff, Nat.reduceEqDiff, Nat.reduceLT, Int.reduceToNat]) f1 f2 f3 hend (by omega) (by omega) (Sep.sub hS (by repeat first | exact Sub.rfl' | (refine Sub.c (by repeat constructor) ?_) | refine Sub.skip ?_))
    · by_cases hw : (wholeM s : Int) < s.length
      · have hw' : wholeM s < s.length := by omega
        have hK : refKA s g off = (12, (s.length : Int)) := by simp [refKA, hk, hb, hw']
        rw [hK] at hfin
        obtain ⟨f1, f2, f3⟩ := hfin
        (have fct := @hI; repeat' (first | ((with_reducible apply G.a); exact rfl) | refine G.reg fun K hK => ?_ | (with_reducible (refine hK _ _ ?_); clear hK K) | (with_reducible (refine hK _ ?_); clear hK K; intro wd hxd; have hS := Sep.xx hxd) | (have hk := hK; clear hk; simp (disch := first | exact dis | fail) only [push_cast, ↓reduceIte, Nat.reduceAdd, Nat.reduceLeDiff, Nat.reduceEqDiff, Nat.reduceLT, Int.reduceToNat, fct]) | ((first | refine brO_n ?_ ?_ | refine brQ_n ?_ ?_) <;> intro hb hc <;> first | (with_reducible exact False.elim hc) | (exfalso; omega) | (simp only [hb]; clear hb)) | ((first | refine zalc ?_ | refine zbsl ?_ | ((with_reducible refine gBox ?_); refine zbox ?_)); intro gb wb hS) | ((with_reducible refine gSt ?_); refine zs2 ?_; intro wb hS) | (refine zcp 61 (stripR_spec s _ (by omega)) ?_; intro wb hS) | (refine zco 62 (hread _) ?_; rintro vb wb ⟨Rv, Ev, vs, rfl, hS2⟩; have hS := hS2.ap; simp only [apps] at hS) | (refine zcp 63 (rbad_spec s _ (by omega)) ?_; intro wb hS) | (refine zcp 59 (whole_spec s _ (by omega)) ?_; intro wb hS) | refine G.drg mixed fun K hK => ?_ | (refine G.cn ?_ ?_ <;> intro hc <;> first | (with_reducible exact False.elim hc) | (exfalso; omega) | skip))) <;> (try clear fct)
        all_goals
          exact rparse_tail (g := g) (gg := gb) (Rv := Rv) (Ev := Ev) (vs := vs) (L := []) (K := 12) (A := (s.length : Int)) (off := off) (by simp only [push_cast, ↓reduceIte, Nat.reduceAdd, Nat.reduceLeDiff, Nat.reduceEqDiff, Nat.reduceLT, Int.reduceToNat, hI]) (by simp only [push_cast, ↓reduceIte, Nat.reduceAdd, Nat.reduceLeDiff, Nat.reduceEqDiff, Nat.reduceLT, Int.reduceToNat]) (by simp only [push_cast, ↓reduceIte, Nat.reduceAdd, Nat.reduceLeDiff, Nat.reduceEqDiff, Nat.reduceLT, Int.reduceToNat]) (by simp only [push_cast, ↓reduceIte, Nat.reduceAdd, Nat.reduceLeDiff, Nat.reduceEqDiff, Nat.reduceLT, Int.reduceToNat]) (by simp only [push_cast, ↓reduceIte, Nat.reduceAdd, Nat.reduceLeDiff, Nat.reduceEqDiff, Nat.reduceLT, Int.reduceToNat]) (by simp only [push_cast, ↓reduceIte, Nat.reduceAdd, Nat.reduceLeDiff, Nat.reduceEqDiff, Nat.reduceLT, Int.reduceToNat] <;> rfl) (by simp only [push_cast, ↓reduceIte, Nat.reduceAdd, Nat.reduceLeDiff, Nat.reduceEqDiff, Nat.reduceLT, Int.reduceToNat]) (by simp only [push_cast, ↓reduceIte, Nat.reduceAdd, Nat.reduceLeDiff, Nat.reduceEqDiff, Nat.reduceLT, Int.reduceToNat]) f1 f2 f3 hend (by omega) (by omega) (Sep.sub hS (by repeat first | exact Sub.rfl' | (refine Sub.c (by repeat constructor) ?_) | refine Sub.skip ?_))
      · have hw' : ¬ wholeM s < s.length := by omega
        have hK : refKA s g off = (g.k, (s.length : Int)) := by simp [refKA, hk, hb, hw']
        rw [hK] at hfin
        obtain ⟨f1, f2, f3⟩ := hfin
        (have fct := @hI; repeat' (first | ((with_reducible apply G.a); exact rfl) | refine G.reg fun K hK => ?_ | (with_reducible (refine hK _ _ ?_); clear hK K) | (with_reducible (refine hK _ ?_); clear hK K; intro wd hxd; have hS := Sep.xx hxd) | (have hk := hK; clear hk; simp (disch := first | exact dis | fail) only [push_cast, ↓reduceIte, Nat.reduceAdd, Nat.reduceLeDiff, Nat.reduceEqDiff, Nat.reduceLT, Int.reduceToNat, fct]) | ((first | refine brO_n ?_ ?_ | refine brQ_n ?_ ?_) <;> intro hb hc <;> first | (with_reducible exact False.elim hc) | (exfalso; omega) | (simp only [hb]; clear hb)) | ((first | refine zalc ?_ | refine zbsl ?_ | ((with_reducible refine gBox ?_); refine zbox ?_)); intro gb wb hS) | ((with_reducible refine gSt ?_); refine zs2 ?_; intro wb hS) | (refine zcp 61 (stripR_spec s _ (by omega)) ?_; intro wb hS) | (refine zco 62 (hread _) ?_; rintro vb wb ⟨Rv, Ev, vs, rfl, hS2⟩; have hS := hS2.ap; simp only [apps] at hS) | (refine zcp 63 (rbad_spec s _ (by omega)) ?_; intro wb hS) | (refine zcp 59 (whole_spec s _ (by omega)) ?_; intro wb hS) | refine G.drg mixed fun K hK => ?_ | (refine G.cn ?_ ?_ <;> intro hc <;> first | (with_reducible exact False.elim hc) | (exfalso; omega) | skip))) <;> (try clear fct)
        all_goals
          exact rparse_tail (g := g) (gg := gb) (Rv := Rv) (Ev := Ev) (vs := vs) (L := []) (K := g.k) (A := (s.length : Int)) (off := off) (by simp only [push_cast, ↓reduceIte, Nat.reduceAdd, Nat.reduceLeDiff, Nat.reduceEqDiff, Nat.reduceLT, Int.reduceToNat, hI]) (by simp only [push_cast, ↓reduceIte, Nat.reduceAdd, Nat.reduceLeDiff, Nat.reduceEqDiff, Nat.reduceLT, Int.reduceToNat]) (by simp only [push_cast, ↓reduceIte, Nat.reduceAdd, Nat.reduceLeDiff, Nat.reduceEqDiff, Nat.reduceLT, Int.reduceToNat]) (by simp only [push_cast, ↓reduceIte, Nat.reduceAdd, Nat.reduceLeDiff, Nat.reduceEqDiff, Nat.reduceLT, Int.reduceToNat]) (by simp only [push_cast, ↓reduceIte, Nat.reduceAdd, Nat.reduceLeDiff, Nat.reduceEqDiff, Nat.reduceLT, Int.reduceToNat]) (by simp only [push_cast, ↓reduceIte, Nat.reduceAdd, Nat.reduceLeDiff, Nat.reduceEqDiff, Nat.reduceLT, Int.reduceToNat] <;> rfl) (by simp only [push_cast, ↓reduceIte, Nat.reduceAdd, Nat.reduceLeDiff, Nat.reduceEqDiff, Nat.reduceLT, Int.reduceToNat]) (by simp only [push_cast, ↓reduceIte, Nat.reduceAdd, Nat.reduceLeDiff, Nat.reduceEqDiff, Nat.reduceLT, Int.reduceToNat]) f1 f2 f3 hend (by omega) (by omega) (Sep.sub hS (by repeat first | exact Sub.rfl' | (refine Sub.c (by repeat constructor) ?_) | refine Sub.skip ?_))
  · by_cases hb : 0 ≤ rbadM s
    · by_cases hc : rbadM s ≤ (g.a : Int) + off
      · have hK : refKA s g off = (3, rbadM s) := by simp [refKA, hk, hb, hc]
        rw [hK] at hfin
        obtain ⟨f1, f2, f3⟩ := hfin
        (have fct := @hI; repeat' (first | ((with_reducible apply G.a); exact rfl) | refine G.reg fun K hK => ?_ | (with_reducible (refine hK _ _ ?_); clear hK K) | (with_reducible (refine hK _ ?_); clear hK K; intro wd hxd; have hS := Sep.xx hxd) | (have hk := hK; clear hk; simp (disch := first | exact dis | fail) only [push_cast, ↓reduceIte, Nat.reduceAdd, Nat.reduceLeDiff, Nat.reduceEqDiff, Nat.reduceLT, Int.reduceToNat, fct]) | ((first | refine brO_n ?_ ?_ | refine brQ_n ?_ ?_) <;> intro hb hc <;> first | (with_reducible exact False.elim hc) | (exfalso; omega) | (simp only [hb]; clear hb)) | ((first | refine zalc ?_ | refine zbsl ?_ | ((with_reducible refine gBox ?_); refine zbox ?_)); intro gb wb hS) | ((with_reducible refine gSt ?_); refine zs2 ?_; intro wb hS) | (refine zcp 61 (stripR_spec s _ (by omega)) ?_; intro wb hS) | (refine zco 62 (hread _) ?_; rintro vb wb ⟨Rv, Ev, vs, rfl, hS2⟩; have hS := hS2.ap; simp only [apps] at hS) | (refine zcp 63 (rbad_spec s _ (by omega)) ?_; intro wb hS) | (refine zcp 59 (whole_spec s _ (by omega)) ?_; intro wb hS) | refine G.drg mixed fun K hK => ?_ | (refine G.cn ?_ ?_ <;> intro hc <;> first | (with_reducible exact False.elim hc) | (exfalso; omega) | skip))) <;> (try clear fct)
        all_goals
          exact rparse_tail (g := g) (gg := gb) (Rv := Rv) (Ev := Ev) (vs := vs) (L := []) (K := 3) (A := rbadM s) (off := off) (by simp only [push_cast, ↓reduceIte, Nat.reduceAdd, Nat.reduceLeDiff, Nat.reduceEqDiff, Nat.reduceLT, Int.reduceToNat, hI]) (by simp only [push_cast, ↓reduceIte, Nat.reduceAdd, Nat.reduceLeDiff, Nat.reduceEqDiff, Nat.reduceLT, Int.reduceToNat]) (by simp only [push_cast, ↓reduceIte, Nat.reduceAdd, Nat.reduceLeDiff, Nat.reduceEqDiff, Nat.reduceLT, Int.reduceToNat]) (by simp only [push_cast, ↓reduceIte, Nat.reduceAdd, Nat.reduceLeDiff, Nat.reduceEqDiff, Nat.reduceLT, Int.reduceToNat]) (by simp only [push_cast, ↓reduceIte, Nat.reduceAdd, Nat.reduceLeDiff, Nat.reduceEqDiff, Nat.reduceLT, Int.reduceToNat]) (by simp only [push_cast, ↓reduceIte, Nat.reduceAdd, Nat.reduceLeDiff, Nat.reduceEqDiff, Nat.reduceLT, Int.reduceToNat] <;> rfl) (by simp only [push_cast, ↓reduceIte, Nat.reduceAdd, Nat.reduceLeDiff, Nat.reduceEqDiff, Nat.reduceLT, Int.reduceToNat]) (by simp only [push_cast, ↓reduceIte, Nat.reduceAdd, Nat.reduceLeDiff, Nat.reduceEqDiff, Nat.reduceLT, Int.reduceToNat]) f1 f2 f3 hend (by omega) (by omega) (Sep.sub hS (by repeat first | exact Sub.rfl' | (refine Sub.c (by repeat constructor) ?_) | refine Sub.skip ?_))
      · have hK : refKA s g off = (g.k, ((g.a : Int) + off)) := by simp [refKA, hk, hb, hc]
        rw [hK] at hfin
        obtain ⟨f1, f2, f3⟩ := hfin
        (have fct := @hI; repeat' (first | ((with_reducible apply G.a); exact rfl) | refine G.reg fun K hK => ?_ | (with_reducible (refine hK _ _ ?_); clear hK K) | (with_reducible (refine hK _ ?_); clear hK K; intro wd hxd; have hS := Sep.xx hxd) | (have hk := hK; clear hk; simp (disch := first | exact dis | fail) only [push_cast, ↓reduceIte, Nat.reduceAdd, Nat.reduceLeDiff, Nat.reduceEqDiff, Nat.reduceLT, Int.reduceToNat, fct]) | ((first | refine brO_n ?_ ?_ | refine brQ_n ?_ ?_) <;> intro hb hc <;> first | (with_reducible exact False.elim hc) | (exfalso; omega) | (simp only [hb]; clear hb)) | ((first | refine zalc ?_ | refine zbsl ?_ | ((with_reducible refine gBox ?_); refine zbox ?_)); intro gb wb hS) | ((with_reducible refine gSt ?_); refine zs2 ?_; intro wb hS) | (refine zcp 61 (stripR_spec s _ (by omega)) ?_; intro wb hS) | (refine zco 62 (hread _) ?_; rintro vb wb ⟨Rv, Ev, vs, rfl, hS2⟩; have hS := hS2.ap; simp only [apps] at hS) | (refine zcp 63 (rbad_spec s _ (by omega)) ?_; intro wb hS) | (refine zcp 59 (whole_spec s _ (by omega)) ?_; intro wb hS) | refine G.drg mixed fun K hK => ?_ | (refine G.cn ?_ ?_ <;> intro hc <;> first | (with_reducible exact False.elim hc) | (exfalso; omega) | skip))) <;> (try clear fct)
        all_goals
          exact rparse_tail (g := g) (gg := gb) (Rv := Rv) (Ev := Ev) (vs := vs) (L := []) (K := g.k) (A := ((g.a : Int) + off)) (off := off) (by simp only [push_cast, ↓reduceIte, Nat.reduceAdd, Nat.reduceLeDiff, Nat.reduceEqDiff, Nat.reduceLT, Int.reduceToNat, hI]) (by simp only [push_cast, ↓reduceIte, Nat.reduceAdd, Nat.reduceLeDiff, Nat.reduceEqDiff, Nat.reduceLT, Int.reduceToNat]) (by simp only [push_cast, ↓reduceIte, Nat.reduceAdd, Nat.reduceLeDiff, Nat.reduceEqDiff, Nat.reduceLT, Int.reduceToNat]) (by simp only [push_cast, ↓reduceIte, Nat.reduceAdd, Nat.reduceLeDiff, Nat.reduceEqDiff, Nat.reduceLT, Int.reduceToNat]) (by simp only [push_cast, ↓reduceIte, Nat.reduceAdd, Nat.reduceLeDiff, Nat.reduceEqDiff, Nat.reduceLT, Int.reduceToNat]) (by simp only [push_cast, ↓reduceIte, Nat.reduceAdd, Nat.reduceLeDiff, Nat.reduceEqDiff, Nat.reduceLT, Int.reduceToNat] <;> rfl) (by simp only [push_cast, ↓reduceIte, Nat.reduceAdd, Nat.reduceLeDiff, Nat.reduceEqDiff, Nat.reduceLT, Int.reduceToNat]) (by simp only [push_cast, ↓reduceIte, Nat.reduceAdd, Nat.reduceLeDiff, Nat.reduceEqDiff, Nat.reduceLT, Int.reduceToNat]) f1 f2 f3 hend (by omega) (by omega) (Sep.sub hS (by repeat first | exact Sub.rfl' | (refine Sub.c (by repeat constructor) ?_) | refine Sub.skip ?_))
    · by_cases hw : (wholeM s : Int) < s.length
      · have hw' : wholeM s < s.length := by omega
        by_cases he : (g.a : Int) + off = s.length
        · have hK : refKA s g off = (12, ((g.a : Int) + off)) := by simp [refKA, hk, hb, hw', he]
          rw [hK] at hfin
          obtain ⟨f1, f2, f3⟩ := hfin
          (have fct := @hI; repeat' (first | ((with_reducible apply G.a); exact rfl) | refine G.reg fun K hK => ?_ | (with_reducible (refine hK _ _ ?_); clear hK K) | (with_reducible (refine hK _ ?_); clear hK K; intro wd hxd; have hS := Sep.xx hxd) | (have hk := hK; clear hk; simp (disch := first | exact dis | fail) only [push_cast, ↓reduceIte, Nat.reduceAdd, Nat.reduceLeDiff, Nat.reduceEqDiff, Nat.reduceLT, Int.reduceToNat, fct]) | ((first | refine brO_n ?_ ?_ | refine brQ_n ?_ ?_) <;> intro hb hc <;> first | (with_reducible exact False.elim hc) | (exfalso; omega) | (simp only [hb]; clear hb)) | ((first | refine zalc ?_ | refine zbsl ?_ | ((with_reducible refine gBox ?_); refine zbox ?_)); intro gb wb hS) | ((with_reducible refine gSt ?_); refine zs2 ?_; intro wb hS) | (refine zcp 61 (stripR_spec s _ (by omega)) ?_; intro wb hS) | (refine zco 62 (hread _) ?_; rintro vb wb ⟨Rv, Ev, vs, rfl, hS2⟩; have hS := hS2.ap; simp only [apps] at hS) | (refine zcp 63 (rbad_spec s _ (by omega)) ?_; intro wb hS) | (refine zcp 59 (whole_spec s _ (by omega)) ?_; intro wb hS) | refine G.drg mixed fun K hK => ?_ | (refine G.cn ?_ ?_ <;> intro hc <;> first | (with_reducible exact False.elim hc) | (exfalso; omega) | skip))) <;> (try clear fct)
          all_goals
            exact rparse_tail (g := g) (gg := gb) (Rv := Rv) (Ev := Ev) (vs := vs) (L := []) (K := 12) (A := ((g.a : Int) + off)) (off := off) (by simp only [push_cast, ↓reduceIte, Nat.reduceAdd, Nat.reduceLeDiff, Nat.reduceEqDiff, Nat.reduceLT, Int.reduceToNat, hI]) (by simp only [push_cast, ↓reduceIte, Nat.reduceAdd, Nat.reduceLeDiff, Nat.reduceEqDiff, Nat.reduceLT, Int.reduceToNat]) (by simp only [push_cast, ↓reduceIte, Nat.reduceAdd, Nat.reduceLeDiff, Nat.reduceEqDiff, Nat.reduceLT, Int.reduceToNat]) (by simp only [push_cast, ↓reduceIte, Nat.reduceAdd, Nat.reduceLeDiff, Nat.reduceEqDiff, Nat.reduceLT, Int.reduceToNat]) (by simp only [push_cast, ↓reduceIte, Nat.reduceAdd, Nat.reduceLeDiff, Nat.reduceEqDiff, Nat.reduceLT, Int.reduceToNat]) (by simp only [push_cast, ↓reduceIte, Nat.reduceAdd, Nat.reduceLeDiff, Nat.reduceEqDiff, Nat.reduceLT, Int.reduceToNat] <;> rfl) (by simp only [push_cast, ↓reduceIte, Nat.reduceAdd, Nat.reduceLeDiff, Nat.reduceEqDiff, Nat.reduceLT, Int.reduceToNat]) (by simp only [push_cast, ↓reduceIte, Nat.reduceAdd, Nat.reduceLeDiff, Nat.reduceEqDiff, Nat.reduceLT, Int.reduceToNat]) f1 f2 f3 hend (by omega) (by omega) (Sep.sub hS (by repeat first | exact Sub.rfl' | (refine Sub.c (by repeat constructor) ?_) | refine Sub.skip ?_))
        · have hK : refKA s g off = (g.k, ((g.a : Int) + off)) := by simp [refKA, hk, hb, hw', he]
          rw [hK] at hfin
          obtain ⟨f1, f2, f3⟩ := hfin
          (have fct := @hI; repeat' (first | ((with_reducible apply G.a); exact rfl) | refine G.reg fun K hK => ?_ | (with_reducible (refine hK _ _ ?_); clear hK K) | (with_reducible (refine hK _ ?_); clear hK K; intro wd hxd; have hS := Sep.xx hxd) | (have hk := hK; clear hk; simp (disch := first | exact dis | fail) only [push_cast, ↓reduceIte, Nat.reduceAdd, Nat.reduceLeDiff, Nat.reduceEqDiff, Nat.reduceLT, Int.reduceToNat, fct]) | ((first | refine brO_n ?_ ?_ | refine brQ_n ?_ ?_) <;> intro hb hc <;> first | (with_reducible exact False.elim hc) | (exfalso; omega) | (simp only [hb]; clear hb)) | ((first | refine zalc ?_ | refine zbsl ?_ | ((with_reducible refine gBox ?_); refine zbox ?_)); intro gb wb hS) | ((with_reducible refine gSt ?_); refine zs2 ?_; intro wb hS) | (refine zcp 61 (stripR_spec s _ (by omega)) ?_; intro wb hS) | (refine zco 62 (hread _) ?_; rintro vb wb ⟨Rv, Ev, vs, rfl, hS2⟩; have hS := hS2.ap; simp only [apps] at hS) | (refine zcp 63 (rbad_spec s _ (by omega)) ?_; intro wb hS) | (refine zcp 59 (whole_spec s _ (by omega)) ?_; intro wb hS) | refine G.drg mixed fun K hK => ?_ | (refine G.cn ?_ ?_ <;> intro hc <;> first | (with_reducible exact False.elim hc) | (exfalso; omega) | skip))) <;> (try clear fct)
          all_goals
            exact rparse_tail (g := g) (gg := gb) (Rv := Rv) (Ev := Ev) (vs := vs) (L := []) (K := g.k) (A := ((g.a : Int) + off)) (off := off) (by simp only [push_cast, ↓reduceIte, Nat.reduceAdd, Nat.reduceLeDiff, Nat.reduceEqDiff, Nat.reduceLT, Int.reduceToNat, hI]) (by simp only [push_cast, ↓reduceIte, Nat.reduceAdd, Nat.reduceLeDiff, Nat.reduceEqDiff, Nat.reduceLT, Int.reduceToNat]) (by simp only [push_cast, ↓reduceIte, Nat.reduceAdd, Nat.reduceLeDiff, Nat.reduceEqDiff, Nat.reduceLT, Int.reduceToNat]) (by simp only [push_cast, ↓reduceIte, Nat.reduceAdd, Nat.reduceLeDiff, Nat.reduceEqDiff, Nat.reduceLT, Int.reduceToNat]) (by simp only [push_cast, ↓reduceIte, Nat.reduceAdd, Nat.reduceLeDiff, Nat.reduceEqDiff, Nat.reduceLT, Int.reduceToNat]) (by simp only [push_cast, ↓reduceIte, Nat.reduceAdd, Nat.reduceLeDiff, Nat.reduceEqDiff, Nat.reduceLT, Int.reduceToNat] <;> rfl) (by simp only [push_cast, ↓reduceIte, Nat.reduceAdd, Nat.reduceLeDiff, Nat.reduceEqDiff, Nat.reduceLT, Int.reduceToNat]) (by simp only [push_cast, ↓reduceIte, Nat.reduceAdd, Nat.reduceLeDiff, Nat.reduceEqDiff, Nat.reduceLT, Int.reduceToNat]) f1 f2 f3 hend (by omega) (by omega) (Sep.sub hS (by repeat first | exact Sub.rfl' | (refine Sub.c (by repeat constructor) ?_) | refine Sub.skip ?_))
      · have hw' : ¬ wholeM s < s.length := by omega
        have hK : refKA s g off = (g.k, ((g.a : Int) + off)) := by simp [refKA, hk, hb, hw']
        rw [hK] at hfin
        obtain ⟨f1, f2, f3⟩ := hfin
        (have fct := @hI; repeat' (first | ((with_reducible apply G.a); exact rfl) | refine G.reg fun K hK => ?_ | (with_reducible (refine hK _ _ ?_); clear hK K) | (with_reducible (refine hK _ ?_); clear hK K; intro wd hxd; have hS := Sep.xx hxd) | (have hk := hK; clear hk; simp (disch := first | exact dis | fail) only [push_cast, ↓reduceIte, Nat.reduceAdd, Nat.reduceLeDiff, Nat.reduceEqDiff, Nat.reduceLT, Int.reduceToNat, fct]) | ((first | refine brO_n ?_ ?_ | refine brQ_n ?_ ?_) <;> intro hb hc <;> first | (with_reducible exact False.elim hc) | (exfalso; omega) | (simp only [hb]; clear hb)) | ((first | refine zalc ?_ | refine zbsl ?_ | ((with_reducible refine gBox ?_); refine zbox ?_)); intro gb wb hS) | ((with_reducible refine gSt ?_); refine zs2 ?_; intro wb hS) | (refine zcp 61 (stripR_spec s _ (by omega)) ?_; intro wb hS) | (refine zco 62 (hread _) ?_; rintro vb wb ⟨Rv, Ev, vs, rfl, hS2⟩; have hS := hS2.ap; simp only [apps] at hS) | (refine zcp 63 (rbad_spec s _ (by omega)) ?_; intro wb hS) | (refine zcp 59 (whole_spec s _ (by omega)) ?_; intro wb hS) | refine G.drg mixed fun K hK => ?_ | (refine G.cn ?_ ?_ <;> intro hc <;> first | (with_reducible exact False.elim hc) | (exfalso; omega) | skip))) <;> (try clear fct)
        all_goals
          exact rparse_tail (g := g) (gg := gb) (Rv := Rv) (Ev := Ev) (vs := vs) (L := []) (K := g.k) (A := ((g.a : Int) + off)) (off := off) (by simp only [push_cast, ↓reduceIte, Nat.reduceAdd, Nat.reduceLeDiff, Nat.reduceEqDiff, Nat.reduceLT, Int.reduceToNat, hI]) (by simp only [push_cast, ↓reduceIte, Nat.reduceAdd, Nat.reduceLeDiff, Nat.reduceEqDiff, Nat.reduceLT, Int.reduceToNat]) (by simp only [push_cast, ↓reduceIte, Nat.reduceAdd, Nat.reduceLeDiff, Nat.reduceEqDiff, Nat.reduceLT, Int.reduceToNat]) (by simp only [push_cast, ↓reduceIte, Nat.reduceAdd, Nat.reduceLeDiff, Nat.reduceEqDiff, Nat.reduceLT, Int.reduceToNat]) (by simp only [push_cast, ↓reduceIte, Nat.reduceAdd, Nat.reduceLeDiff, Nat.reduceEqDiff, Nat.reduceLT, Int.reduceToNat]) (by simp only [push_cast, ↓reduceIte, Nat.reduceAdd, Nat.reduceLeDiff, Nat.reduceEqDiff, Nat.reduceLT, Int.reduceToNat] <;> rfl) (by simp only [push_cast, ↓reduceIte, Nat.reduceAdd, Nat.reduceLeDiff, Nat.reduceEqDiff, Nat.reduceLT, Int.reduceToNat]) (by simp only [push_cast, ↓reduceIte, Nat.reduceAdd, Nat.reduceLeDiff, Nat.reduceEqDiff, Nat.reduceLT, Int.reduceToNat]) f1 f2 f3 hend (by omega) (by omega) (Sep.sub hS (by repeat first | exact Sub.rfl' | (refine Sub.c (by repeat constructor) ?_) | refine Sub.skip ?_))
end
end Go.Proofs.YtdikpaochhacmaaGreatDoor
