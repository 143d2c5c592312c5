/- Texts of the proof, joined. -/
import Derived.Test.YtigifbjdmdcboaawY26
import Derived.Test.YtigifbjdmdcboaawS10
namespace Go.Proofs.Ytigifbjdmdcboaa
set_option linter.unusedSimpArgs false
set_option linter.unusedVariables false
open Go.RowKit
def txtF (d : Dl) (first : Bool) : List (List Str) → Str
  | [] => []
  | r :: t => lineM d r first ++ txtF d false t
theorem txtF_snoc (d : Dl) : ∀ (t : List (List Str)) (first : Bool) (r : List Str), txtF d first (t ++ [r]) = txtF d first t ++ lineM d r (first && decide (t.length = 0))
  | [], first, r => by simp [txtF]
  | x :: t, first, r => by
    simp only [List.cons_append, txtF, txtF_snoc d t false r, List.append_assoc, Bool.false_and]
    congr 2
    simp
section
variable {d : Dl} {l : Lm}
theorem eol_run (hr : Rt d) (hU : l.U = false) {st : Int} {m : Mk} (p : Nat) (hs : aft st) (rest : Str) : ∃ p1 p2, wrun d l 0 st m p (endM d ++ rest) = (wrun d l 0 0 m.put.out p1 rest).pre [(m.rc ++ [m.fl], p2)] := by
  have hst : m.strict l = false := by simp [Mk.strict, hU]
  have hw : ∀ {st : Int} {m : Mk} {z : UInt8}, (z.toNat : Int) = 13 ∨ (z.toNat : Int) = 10 → stepW d l 0 st m z = match stepR d l st m z with | .error k => .error k | .ok x => .ok (0, x) := fun {st m z} hz => by
    have hq := ascii0 (lf_or hz)
    unfold stepW; rw [hq, if_neg (by simp)]; rfl
  unfold endM
  by_cases he : d.e = 2
  · rw [if_pos he]
    refine ⟨p + 1 + 1, p + 1, ?_⟩
    rw [List.cons_append, wrun_cons, hw (.inl rfl), a_13 hr hs rfl, if_neg (by omega), if_neg (by rw [hst]; simp)]
    simp only [oneR, pre_nil]
    rw [List.cons_append, wrun_cons, hw (.inr rfl), s5_10 rfl]
    rfl
  · rw [if_neg he]
    refine ⟨p + 1, p, ?_⟩
    rw [List.cons_append, wrun_cons, hw (.inr rfl), a_10 hr hs rfl, if_neg he, if_neg (by rw [hst]; simp)]
    rfl
theorem txt_run (hr : Rt d) (hd : byD d) (hrt : rightD d = true) (hU : l.U = false) (hF : 1000 < l.F) (hN : 1000 < l.N) : ∀ (t : List (List Str)) (first : Bool) (m : Mk) (p : Nat), m.fl = [] → m.rc = [] → ((m.bg : Int) + t.length ≤ l.R) → (∀ r ∈ t, mayR r = 0 ∧ r.length ≤ 1000 ∧ ∀ f ∈ r, f.length ≤ 1000) →
    (wrun d l 0 0 m p (txtF d first t)).rs.map Prod.fst = t ∧ (wrun d l 0 0 m p (txtF d first t)).k = 0
  | [], first, m, p, _, _, _, _ => by
    rw [txtF, wrun_nil]; unfold endW; rw [if_neg (by decide), s0_e]; exact ⟨rfl, rfl⟩
  | r :: t, first, m, p, h1, h2, h3, h4 => by
    obtain ⟨hm, hl, hf⟩ := h4 r (by simp)
    obtain ⟨hr0, hv⟩ := may_parts hm
    obtain ⟨aq, adl⟩ := right_ascii hd hrt
    simp only [List.length_cons] at h3
    obtain ⟨st', m', hs, hg, hrec, hbg, hct, hwd⟩ := line_run (l := l) hr hd hU first r m hr0 h1 h2 (fun f hf' => by have := hf f hf'; omega) (by omega) (by omega)
    obtain ⟨p1, p2, e⟩ := eol_run (l := l) hr hU (m := m') (p + (lineF d r.length first 0 r).length) hs (txtF d false t)
    have ih := txt_run hr hd hrt hU hF hN t false m'.put.out p1 rfl rfl (by show ((m'.bg : Int) + _ ≤ _); omega) (fun x hx => h4 x (by simp [hx]))
    rw [txtF, lineM, List.append_assoc, go_wrun _ p hg (line_full aq adl r.length first r 0 hv), e]
    refine ⟨?_, ih.2⟩
    simp only [Rs.pre, List.map_append, List.map_cons, List.map_nil, hrec, ih.1, List.singleton_append]
end
theorem end_cons (d : Dl) (x : Str) : ∃ z e', endM d ++ x = z :: e' ∧ ((z.toNat : Int) = 13 ∨ (z.toNat : Int) = 10) := by
  unfold endM
  split
  · exact ⟨13, [10] ++ x, rfl, .inl rfl⟩
  · exact ⟨10, x, rfl, .inr rfl⟩
theorem txt_par {d : Dl} (hd : byD d) (hrt : rightD d = true) (t : List (List Str)) (h0 : t.length ≤ 1000) (h : ∀ r ∈ t, mayR r = 0 ∧ r.length ≤ 1000 ∧ ∀ f ∈ r, f.length ≤ 1000) : (parM d wideL (txtF d true t)).rs.map Prod.fst = t ∧ (parM d wideL (txtF d true t)).k = 0 := by
  have hb : stripM (txtF d true t) = txtF d true t := by
    unfold stripM
    rw [if_neg]
    match t, h with
    | [], _ => simp [txtF]
    | r :: t, h =>
      have := line_nobom hd hrt (h r (by simp)).1 (e := endM d ++ txtF d false t) (.inr (end_cons d _))
      rw [txtF, lineM, List.append_assoc]; exact this
  have := txt_run (l := wideL) (right_rt hrt) hd hrt rfl (by decide) (by decide) t true {} ((txtF d true t).length - (stripM (txtF d true t)).length) rfl rfl (by show ((0 : Nat) : Int) + _ ≤ 2147483648; omega) h
  unfold parM
  rw [hb] at this ⊢
  exact this
theorem alk_all {w : Nat} : ∀ t : List (List Str), (∀ r ∈ t, r.length = w) → alkF w t = t.length
  | [], _ => rfl
  | r :: t, h => by rw [alkF, if_pos (h r (by simp)), alk_all t fun x hx => h x (by simp [hx])]; rfl
theorem txt_score {d : Dl} (hd : byD d) (hrt : rightD d = true) (t : List (List Str)) (h0 : 2 ≤ t.length ∧ t.length ≤ 1000) (h : ∀ r ∈ t, mayR r = 0 ∧ r.length ≤ 1000 ∧ ∀ f ∈ r, f.length ≤ 1000) (hw : ∀ r ∈ t, r.length = (t.getD 0 []).length) (h2 : 2 ≤ (t.getD 0 []).length) : 1000000 ≤ scoreM d (txtF d true t) := by
  obtain ⟨e1, e2⟩ := txt_par hd hrt t h0.2 h
  unfold scoreM scoreT
  rw [e1, e2, alk_all t hw, if_neg (by omega), if_pos ⟨rfl, h0.1, rfl⟩]
  omega
theorem best_ge {s : Str} {g : Gs} (h : IsBest s g) {d : Dl} (hd : d ∈ triedL) : scoreM d s ≤ g.sc := by
  have hm : (⟨d, scoreM d s⟩ : Gs) ∈ gsL s := List.mem_map.2 ⟨d, hd, rfl⟩
  rcases h.2 _ hm with e | e
  · rw [← e]; exact Int.le_refl _
  · unfold Bef at e
    have : (scoreM d s < g.sc) ∨ g.sc = scoreM d s := e.imp id And.left
    omega
theorem gRow_some {r : List Str} {b b' : Int} (hb : 0 ≤ b) (h : gRow r b = some b') : (totL r : Int) ≤ b ∧ b' = b - totL r := by
  rw [gRow_eq r b hb] at h
  split at h
  · simp at h; exact ⟨by assumption, h.symm⟩
  · simp at h
theorem gTab_no : ∀ (t : List (List Str)) (f b : Int), 0 ≤ b → gTab t f b = false → ∀ r ∈ t, (r.length : Int) ≤ f ∧ ∀ x ∈ r, (x.length : Int) ≤ b
  | [], _, _, _, _, r, hr => by simp at hr
  | q :: t, f, b, hb, h, r, hr => by
    rw [gTab] at h
    split at h
    · simp at h
    · rename_i h1
      cases hg : gRow q b with
      | none => rw [hg] at h; simp at h
      | some b' =>
        rw [hg] at h
        obtain ⟨h2, h3⟩ := gRow_some hb hg
        rcases List.mem_cons.1 hr with e | hr
        · rw [e]
          exact ⟨by omega, fun x hx => by have := totL_mem hx; omega⟩
        · obtain ⟨h4, h5⟩ := gTab_no t (f - q.length) b' (by omega) h r hr
          exact ⟨by omega, fun x hx => by have := h5 x hx; omega⟩
theorem great_no {t : List (List Str)} {n f b : Int} (hb : 0 ≤ b) (h : greatM t n f b = false) : (t.length : Int) ≤ n ∧ ∀ r ∈ t, (r.length : Int) ≤ f ∧ ∀ x ∈ r, (x.length : Int) ≤ b := by
  unfold greatM at h
  split at h
  · simp at h
  · exact ⟨by omega, gTab_no t f b hb h⟩
theorem end_len (d : Dl) : (endM d).length ≤ 2 := by unfold endM; split <;> simp
theorem txt_len (d : Dl) (A N : Nat) : ∀ (t : List (List Str)) (first : Bool), (∀ r ∈ t, r.length ≤ A ∧ ∀ f ∈ r, f.length ≤ N) → (txtF d first t).length ≤ t.length * (A * (2 * N + 3) + 2)
  | [], _, _ => by simp [txtF]
  | r :: t, first, h => by
    have ih := txt_len d A N t false fun x hx => h x (by simp [hx])
    obtain ⟨h1, h2⟩ := h r (by simp)
    have h3 := lineF_len d r.length first N r 0 h2
    have h4 := end_len d
    have h5 : r.length * (2 * N + 3) ≤ A * (2 * N + 3) := Nat.mul_le_mul_right _ h1
    simp only [txtF, lineM, List.length_append, List.length_cons, Nat.add_mul]
    generalize A * (2 * N + 3) = z at *
    generalize r.length * (2 * N + 3) = y at *
    omega
end Go.Proofs.Ytigifbjdmdcboaa
