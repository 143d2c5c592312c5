/- Texts of the proof, joined. -/
import Derived.Test.YtdikpaochhacmaaGreatDoortD20
import Derived.Test.YtdikpaochhacmaaGreatDoortS10
namespace Go.Proofs.YtdikpaochhacmaaGreatDoor
set_option linter.unusedSimpArgs false
set_option linter.unusedVariables false
open Go.RowKit
theorem asc_valid : ∀ s : Str, (∀ c ∈ s, c.toNat < 128) → validM s = true
  | [], _ => rfl
  | c :: r, h => by
    have h1 : validM [c] = true := by
      have := valid_one [] c rfl
      rw [List.nil_append] at this
      rw [this]; exact decide_eq_true (by have := h c (by simp); omega)
    have h2 := (valid_app [c] r h1).1
    rw [List.singleton_append] at h2
    rw [h2]
    exact asc_valid r fun x hx => h x (List.mem_cons_of_mem _ hx)
theorem form_asc {s : Str} (h : formM s = true) : ∀ c ∈ s, c.toNat < 128 := by
  unfold formM at h
  rw [Bool.or_eq_true, decide_eq_true_eq] at h
  rcases h with h | h
  · subst h; intro c hc; simp at hc; subst hc; decide
  · unfold bodM at h
    rw [Bool.and_eq_true, List.all_eq_true] at h
    have h2 := h.2
    unfold trM negM at h2
    intro c hc
    by_cases hn : s.take 1 = [45]
    · rw [if_pos (decide_eq_true hn)] at h2
      cases s with
      | nil => simp at hc
      | cons x r =>
        simp at hn
        rcases List.mem_cons.1 hc with e | hc
        · subst e; subst hn; decide
        · have := h2 c (by simpa using hc)
          unfold dgB at this
          have := of_decide_eq_true this
          omega
    · rw [if_neg (by simpa using hn)] at h2
      have := h2 c hc
      unfold dgB at this
      have := of_decide_eq_true this
      omega
theorem enc_valid (v : Val) (k : Int) (nl : Bool) (h : (encM v k nl).2 = 0) : validM (encM v k nl).1 = true := by
  unfold encM at h ⊢
  by_cases hk : ¬ (1 ≤ k ∧ k ≤ 3)
  · rw [if_pos hk] at h; simp at h
  rw [if_neg hk] at h ⊢
  by_cases hr : ¬ (rightM v = true ∧ (v.kind = 0 ∨ v.kind = k))
  · rw [if_pos hr] at h; simp at h
  rw [if_neg hr] at h ⊢
  have hvs := (right_of (Decidable.not_not.1 hr).1).2
  by_cases h0 : v.kind = 0
  · rw [if_pos h0]
    split <;> rfl
  rw [if_neg h0]
  by_cases h2 : v.kind = 2
  · rw [if_pos h2]; exact asc_valid _ (form_asc (itoa_form _))
  rw [if_neg h2]
  by_cases h3 : v.kind = 3
  · rw [if_pos h3]; cases v.b <;> decide +kernel
  rw [if_neg h3]
  split
  · show validM (92 :: v.s) = true
    rw [valid_92]; exact hvs
  · exact hvs
theorem enc_len (v : Val) (k : Int) (nl : Bool) (N : Nat) (hs : v.s.length + 1 ≤ N) (hn : i64M v.n) (h20 : 25 ≤ N) : (encM v k nl).1.length ≤ N := by
  unfold encM
  split
  · simp
  split
  · simp
  split
  · split <;> simp
  split
  · have := Lib.itoa_length_le v.n hn.1 hn.2
    show (Lib.itoa v.n).length ≤ N
    omega
  split
  · show List.length (if v.b = true then ([116, 114, 117, 101] : Str) else [102, 97, 108, 115, 101]) ≤ N
    cases v.b <;> simp <;> omega
  split
  · show (92 :: v.s).length ≤ N
    simp; omega
  · show v.s.length ≤ N
    omega
def rngI (n : Nat) : List Int := (List.range n).map fun (i : Nat) => (i : Int)
theorem rngI_snoc (n : Nat) : rngI (n + 1) = rngI n ++ [(n : Int)] := by simp [rngI, List.range_succ]
theorem rngI_len (n : Nat) : (rngI n).length = n := by simp [rngI]
theorem bcF_own (names : List Str) (hn : names.Nodup) (mode : Int) : ∀ (r a : List Str), names = a ++ r → bcF names mode r (rngI a.length) = (rngI names.length, (names.length : Int), 0)
  | [], a, h => by
    rw [List.append_nil] at h; subst h
    rw [bcF, rngI_len]
  | c :: r, a, h => by
    have hk : a.length < names.length := by rw [h]; simp
    have hat := atM_nd names hn a.length hk
    have hg : names.getD a.length default = c := by rw [h, List.getD_eq_getElem?_getD]; simp
    rw [hg] at hat
    rw [bcF_cons, if_neg (by rw [hat, rngI_len]; omega), hat, ← rngI_snoc]
    have := bcF_own names hn mode r (a ++ [c]) (by rw [h]; simp)
    simpa using this
theorem lack_own (cols : List Str) : ∀ (r : List Str) (i : Nat), (∀ x ∈ r, x ∈ cols) → lackF cols r i = none
  | [], _, _ => rfl
  | n :: r, i, h => by
    rw [lackF_cons, if_neg (by have := (atM_mem cols n).2 (h n (by simp)); omega)]
    exact lack_own cols r (i + 1) fun x hx => h x (List.mem_cons_of_mem _ hx)
theorem newF_own : ∀ (r a : List Str), (a ++ r).Nodup → (∀ n ∈ r, validM n = true) → (newF a r).2 = 0
  | [], a, _, _ => by rw [newF]
  | n :: r, a, h, hv => by
    rw [newF, if_pos (hv n (by simp)), if_neg]
    · exact newF_own r (a ++ [n]) (by simpa using h) fun x hx => hv x (List.mem_cons_of_mem _ hx)
    · intro hc
      have hm := (atM_mem a n).1 hc
      rw [List.nodup_append] at h
      exact h.2.2 n hm n (by simp) rfl
theorem bind_own (l : List Col) (h : (checkM (l.map nkC)).2 = 0) (mode : Int) (hm : 1 ≤ mode ∧ mode ≤ 3) : bindCM (namesC l) (l.map nkC) mode = (rngI l.length, (l.length : Int), 0) := by
  obtain ⟨r1, r2, r3, r4⟩ := check_right l h
  have hnn : (l.map nkC).map (·.1) = namesC l := by simp [nkC, namesC]
  have hnl : (namesC l).length = l.length := by simp [namesC]
  have hnew : (newM (namesC l)).2 = 0 := by
    unfold newM
    rw [if_neg (by rw [hnl]; intro e; exact r1 (List.eq_nil_of_length_eq_zero e))]
    exact newF_own _ [] (by simpa using r3) fun n hn => by
      obtain ⟨c, hc, rfl⟩ := List.mem_map.1 hn
      exact (r2 c hc).2.2
  have hb := bcF_own (namesC l) r3 mode (namesC l) [] rfl
  have hb' : bcF (namesC l) mode (namesC l) [] = (rngI l.length, (l.length : Int), 0) := by rw [hnl] at hb; exact hb
  unfold bindCM
  rw [if_neg (by omega), if_neg (not_not_intro h), if_neg (not_not_intro hnew), hnn, hb', if_neg (by simp), lack_own _ _ _ fun x hx => hx]
  split <;> rfl
theorem pickF_own (r : List Str) : ∀ (m k : Nat), k + m = r.length → pickF r ((rngI r.length).drop k) (r.take k) = (r, 0)
  | 0, k, h => by
    rw [List.drop_eq_nil_of_le (by rw [rngI_len]; omega), pickF, List.take_of_length_le (by omega)]
  | m + 1, k, h => by
    have hk : k < r.length := by omega
    have hd : (rngI r.length).drop k = (k : Int) :: (rngI r.length).drop (k + 1) := by
      rw [List.drop_eq_getElem_cons (by rw [rngI_len]; exact hk)]
      simp [rngI]
    rw [hd, pickF, if_neg (by omega)]
    have e : r.take k ++ [r.getD (k : Int).toNat default] = r.take (k + 1) := by
      rw [takeD r k (by omega)]; simp
    rw [e]
    exact pickF_own r m (k + 1) (by omega)
theorem pick_own (r : List Str) (n : Nat) (h : r.length = n) : pickM r (rngI n) = (r, 0) := by
  subst h
  unfold pickM
  rw [if_neg]
  · exact pickF_own r r.length 0 (by omega)
  · rw [Bool.not_eq_true, List.any_eq_false]
    intro x hx
    obtain ⟨i, _, rfl⟩ := List.mem_map.1 hx
    simp
theorem recF_row : ∀ (v : List Val) (l : List Col) (o1 : List Str) (o2 : List Val), v.length = l.length → (∀ x ∈ v, i64M x.n) → o1.length = o2.length → (recF v l o1).2.2 = 0 →
    ∃ fs : List Str, (recF v l o1).1 = o1 ++ fs ∧ fs.length = v.length ∧ (recF v l o1).2.1 = ((o1.length + v.length : Nat) : Int) ∧ rowF fs l o2 = (o2 ++ v, ((o2.length + v.length : Nat) : Int), 0) ∧
      (∀ f ∈ fs, ∃ x ∈ v, ∃ k nl, f = (encM x k nl).1 ∧ (encM x k nl).2 = 0)
  | [], [], o1, o2, _, _, _, h => ⟨[], by simp [recF], rfl, by simp [recF], by simp [rowF], by simp⟩
  | [], _ :: _, _, _, hl, _, _, _ => by simp at hl
  | _ :: _, [], _, _, hl, _, _, _ => by simp at hl
  | x :: v, c :: l, o1, o2, hl, hi, ho, h => by
    rw [recF] at h ⊢
    by_cases he : (encM x c.kind c.null).2 = 0
    · rw [if_neg (not_not_intro he)] at h ⊢
      obtain ⟨fs, h1, h2, h3, h4, h5⟩ := recF_row v l (o1 ++ [(encM x c.kind c.null).1]) (o2 ++ [x]) (by simpa using hl) (fun y hy => hi y (List.mem_cons_of_mem _ hy)) (by simp [ho]) h
      refine ⟨(encM x c.kind c.null).1 :: fs, by rw [h1]; simp, by simp [h2], by rw [h3]; simp; omega, ?_, ?_⟩
      · have hde := dec_enc x c.kind c.null (hi x (by simp)) he
        rw [rowF, hde, if_neg (by simp), h4]
        simp; omega
      · intro f hf
        rcases List.mem_cons.1 hf with rfl | hf
        · exact ⟨x, by simp, c.kind, c.null, rfl, he⟩
        · obtain ⟨y, hy, k, nl, e1, e2⟩ := h5 f hf
          exact ⟨y, List.mem_cons_of_mem _ hy, k, nl, e1, e2⟩
    · rw [if_pos he] at h
      exact absurd h he
theorem rec_row (v : List Val) (l : List Col) (hi : ∀ x ∈ v, i64M x.n) (h : (recM v l).2.2 = 0) :
    (recM v l).1.length = l.length ∧ rowM (recM v l).1 l = (v, (l.length : Int), 0) ∧ (∀ f ∈ (recM v l).1, ∃ x ∈ v, ∃ k nl, f = (encM x k nl).1 ∧ (encM x k nl).2 = 0) := by
  unfold recM at h ⊢
  by_cases hl : (v.length : Int) = l.length
  · rw [if_pos hl] at h ⊢
    obtain ⟨fs, h1, h2, h3, h4, h5⟩ := recF_row v l [] [] (by omega) hi rfl h
    simp only [List.nil_append, List.length_nil, Nat.zero_add] at h1 h4
    rw [h1]
    refine ⟨by omega, ?_, h5⟩
    unfold rowM
    rw [if_pos (by omega), h4]
    simp; omega
  · rw [if_neg hl] at h; simp at h
def wrF (l : List Col) : List (List Val) → List (List Str) → List (List Str) × Bd
  | [], out => (out, ⟨0, 0, 0, 0⟩)
  | v :: t, out => if (recM v l).2.2 ≠ 0 then ([], ⟨(recM v l).2.2, (out.length : Int), (recM v l).2.1, 0⟩) else wrF l t (out ++ [(recM v l).1])
def writeM (d : Dl) (l : List Col) (rows : List (List Val)) : Str × Bd :=
  if (checkM (l.map nkC)).2 ≠ 0 then ([], ⟨(checkM (l.map nkC)).2, 0, (checkM (l.map nkC)).1, 0⟩) else
  if rightD d = false then ([], ⟨1, 0, 0, 0⟩) else
  if (wrF l rows [namesC l]).2.k ≠ 0 then ([], (wrF l rows [namesC l]).2) else (txtF d true (wrF l rows [namesC l]).1, ⟨0, 0, 0, 0⟩)
theorem wrF_ok (l : List Col) : ∀ (rows : List (List Val)) (out : List (List Str)), (wrF l rows out).2.k = 0 → (wrF l rows out) = (out ++ rows.map (fun v => (recM v l).1), ⟨0, 0, 0, 0⟩) ∧ ∀ v ∈ rows, (recM v l).2.2 = 0
  | [], out, h => by simp [wrF]
  | v :: t, out, h => by
    rw [wrF] at h ⊢
    by_cases he : (recM v l).2.2 = 0
    · rw [if_neg (not_not_intro he)] at h ⊢
      obtain ⟨h1, h2⟩ := wrF_ok l t _ h
      refine ⟨by rw [h1]; simp, fun x hx => ?_⟩
      rcases List.mem_cons.1 hx with rfl | hx
      · exact he
      · exact h2 x hx
    · rw [if_pos he] at h; exact absurd h he
theorem rdF_own (l : List Col) (hne : l ≠ []) : ∀ (rows : List (List Val)) (out : List (List Val)), (∀ v ∈ rows, (∀ x ∈ v, i64M x.n) ∧ (recM v l).2.2 = 0) →
    rdF l.length (rngI l.length) l 0 0 (rows.map fun v => (recM v l).1) out = (out ++ rows, ⟨0, 0, 0, 0⟩)
  | [], out, _ => by simp [rdF]
  | v :: t, out, h => by
    obtain ⟨h1, h2⟩ := h v (by simp)
    obtain ⟨g1, g2, _⟩ := rec_row v l h1 h2
    rw [List.map_cons, rdF, if_neg (by simp [g1]), pick_own _ _ g1, if_neg (by simp), g2, if_neg (by simp)]
    have := rdF_own l hne t (out ++ [v]) fun x hx => h x (List.mem_cons_of_mem _ hx)
    simpa using this
theorem may_row {r : List Str} (h0 : r ≠ []) (h : ∀ f ∈ r, validM f = true) : mayR r = 0 := by
  unfold mayR
  rw [if_neg h0, if_pos (List.all_eq_true.2 h)]
theorem write_tab (l : List Col) (hck : (checkM (l.map nkC)).2 = 0) (hl : l.length ≤ 1000) (hln : ∀ c ∈ l, c.name.length ≤ 1000) (rows : List (List Val)) (hr : ∀ v ∈ rows, (∀ x ∈ v, i64M x.n ∧ x.s.length ≤ 900) ∧ (recM v l).2.2 = 0) :
    ∀ r ∈ namesC l :: rows.map (fun v => (recM v l).1), mayR r = 0 ∧ r.length ≤ 1000 ∧ ∀ f ∈ r, f.length ≤ 1000 := by
  obtain ⟨r1, r2, r3, r4⟩ := check_right l hck
  intro r hm
  rcases List.mem_cons.1 hm with rfl | hm
  · refine ⟨may_row (by simpa [namesC] using r1) fun f hf => ?_, by simpa [namesC] using hl, fun f hf => ?_⟩
    · obtain ⟨c, hc, rfl⟩ := List.mem_map.1 hf
      exact (r2 c hc).2.2
    · obtain ⟨c, hc, rfl⟩ := List.mem_map.1 hf
      exact hln c hc
  · obtain ⟨v, hv, rfl⟩ := List.mem_map.1 hm
    obtain ⟨h1, h2⟩ := hr v hv
    obtain ⟨g1, g2, g3⟩ := rec_row v l (fun x hx => (h1 x hx).1) h2
    have hne : (recM v l).1 ≠ [] := fun e => by
      rw [e] at g1
      exact r1 (List.eq_nil_of_length_eq_zero g1.symm)
    refine ⟨may_row hne fun f hf => ?_, by omega, fun f hf => ?_⟩
    · obtain ⟨x, hx, k, nl, rfl, he⟩ := g3 f hf
      exact enc_valid x k nl he
    · obtain ⟨x, hx, k, nl, rfl, he⟩ := g3 f hf
      exact enc_len x k nl 1000 (by have := (h1 x hx).2; omega) (h1 x hx).1 (by decide)
theorem read_own {d : Dl} (hd : byD d) (hrt : rightD d = true) (l : List Col) (hck : (checkM (l.map nkC)).2 = 0) (hl : l.length ≤ 1000) (hln : ∀ c ∈ l, c.name.length ≤ 1000) (mode : Int) (hm : 1 ≤ mode ∧ mode ≤ 3)
    (rows : List (List Val)) (hn : rows.length ≤ 900) (hr : ∀ v ∈ rows, (∀ x ∈ v, i64M x.n ∧ x.s.length ≤ 900) ∧ (recM v l).2.2 = 0) :
    readM d l mode (txtF d true (namesC l :: rows.map fun v => (recM v l).1)) = (rows, ⟨0, 0, 0, 0⟩) := by
  obtain ⟨r1, r2, r3, r4⟩ := check_right l hck
  obtain ⟨p1, p2⟩ := txt_par hd hrt (namesC l :: rows.map fun v => (recM v l).1) (by simp; omega) (write_tab l hck hl hln rows hr)
  have hnl : (namesC l).length = l.length := by simp [namesC]
  unfold readM
  rw [if_neg (not_not_intro hck), if_neg (by omega), if_neg (by rw [hrt]; decide), p1, p2, rdT, bind_own l hck mode hm, if_neg (by simp)]
  have ha : ((parM d wideL (txtF d true (namesC l :: rows.map fun v => (recM v l).1))).a : Int) = (parM d wideL (txtF d true (namesC l :: rows.map fun v => (recM v l).1))).a := rfl
  generalize (parM d wideL (txtF d true (namesC l :: rows.map fun v => (recM v l).1))).a = a at *
  have key : ∀ (t : List (List Str)) (out : List (List Val)) (a b : Int), rdF l.length (rngI l.length) l 0 a t out = rdF l.length (rngI l.length) l 0 b t out := by
    intro t
    induction t with
    | nil => intro out a b; rw [rdF, rdF]; simp
    | cons r t ih => intro out a b; rw [rdF, rdF]; rw [ih _ a b]
  show rdF (namesC l).length (rngI l.length) l 0 (a : Int) _ [] = _
  rw [hnl, key _ _ (a : Int) 0]
  have := rdF_own l r1 rows [] fun v hv => ⟨fun x hx => ((hr v hv).1 x hx).1, (hr v hv).2⟩
  simpa using this
end Go.Proofs.YtdikpaochhacmaaGreatDoor
namespace Go.Proofs.YtdikpaochhacmaaGreatDoor
set_option linter.unusedSimpArgs false
set_option linter.unusedVariables false
open Go.RowKit
theorem rowF_rec : ∀ (r : List Str) (l : List Col) (o1 : List Val) (o2 : List Str), r.length = l.length → (rowF r l o1).2.2 = 0 →
    ∃ vs : List Val, (rowF r l o1).1 = o1 ++ vs ∧ vs.length = l.length ∧ (recF vs l o2).2.2 = 0 ∧ ∀ x ∈ vs, ∃ s ∈ r, ∃ k nl, x = (deM s k nl).1
  | [], [], o1, o2, _, _ => ⟨[], by simp [rowF], rfl, by simp [recF], by simp⟩
  | [], _ :: _, _, _, h, _ => by simp at h
  | _ :: _, [], _, _, h, _ => by simp at h
  | s :: r, c :: l, o1, o2, hl, h => by
    rw [rowF] at h ⊢
    by_cases he : (deM s c.kind c.null).2 = 0
    · rw [if_neg (not_not_intro he)] at h ⊢
      have hen := (enc_dec s c.kind c.null he).2
      obtain ⟨vs, h1, h2, h3, h4⟩ := rowF_rec r l (o1 ++ [(deM s c.kind c.null).1]) (o2 ++ [s]) (by simpa using hl) h
      refine ⟨(deM s c.kind c.null).1 :: vs, by rw [h1]; simp, by simp [h2], ?_, fun x hx => ?_⟩
      · rw [recF, hen, if_neg (by simp)]; exact h3
      · rcases List.mem_cons.1 hx with rfl | hx
        · exact ⟨s, by simp, _, _, rfl⟩
        · obtain ⟨y, hy, k, nl, e⟩ := h4 x hx
          exact ⟨y, List.mem_cons_of_mem _ hy, k, nl, e⟩
    · rw [if_pos he] at h; exact absurd h he
theorem row_rec (r : List Str) (l : List Col) (h : (rowM r l).2.2 = 0) : (recM (rowM r l).1 l).2.2 = 0 ∧ (rowM r l).1.length = l.length ∧ ∀ x ∈ (rowM r l).1, ∃ s ∈ r, ∃ k nl, x = (deM s k nl).1 := by
  unfold rowM at h ⊢
  by_cases hl : (r.length : Int) = l.length
  · rw [if_pos hl] at h ⊢
    obtain ⟨vs, h1, h2, h3, h4⟩ := rowF_rec r l [] [] (by omega) h
    rw [List.nil_append] at h1
    rw [h1]
    refine ⟨?_, h2, h4⟩
    unfold recM
    rw [if_pos (by omega)]
    exact h3
  · rw [if_neg hl] at h; simp at h
def GoodR (l : List Col) (N : Nat) (v : List Val) : Prop := (recM v l).2.2 = 0 ∧ v.length = l.length ∧ ∀ x ∈ v, i64M x.n ∧ x.s.length ≤ N
theorem rdF_good (r0 : Nat) (p : List Int) (l : List Col) (fk fa : Int) (N : Nat) : ∀ (t : List (List Str)) (out : List (List Val)), (∀ r ∈ t, ∀ f ∈ r, f.length ≤ N) → (∀ v ∈ out, GoodR l N v) → (rdF r0 p l fk fa t out).2.k = 0 →
    fk = 0 ∧ (rdF r0 p l fk fa t out).2 = ⟨0, 0, 0, 0⟩ ∧ ∀ v ∈ (rdF r0 p l fk fa t out).1, GoodR l N v
  | [], out, _, ho, h => by
    rw [rdF] at h ⊢
    by_cases hk : fk = 0
    · rw [if_neg (not_not_intro hk)]; exact ⟨hk, rfl, ho⟩
    · rw [if_pos hk] at h; exact absurd h hk
  | r :: t, out, hN, ho, h => by
    rw [rdF] at h ⊢
    by_cases h1 : ¬ (r.length : Int) = r0
    · rw [if_pos h1] at h; simp at h
    rw [if_neg h1] at h ⊢
    by_cases h2 : (pickM r p).2 = 0
    · rw [if_neg (not_not_intro h2)] at h ⊢
      by_cases h3 : (rowM (pickM r p).1 l).2.2 = 0
      · rw [if_neg (not_not_intro h3)] at h ⊢
        obtain ⟨g1, g2, g3⟩ := row_rec _ l h3
        have hpk := (pickM_sub r p N (hN r (by simp))).1
        refine rdF_good r0 p l fk fa N t _ (fun x hx => hN x (List.mem_cons_of_mem _ hx)) (fun v hv => ?_) h
        rcases List.mem_append.1 hv with hv | hv
        · exact ho v hv
        · rw [List.mem_singleton] at hv
          subst hv
          refine ⟨g1, g2, fun x hx => ?_⟩
          obtain ⟨s, hs, k, nl, rfl⟩ := g3 x hx
          exact ⟨de_i64 s k nl, Nat.le_trans (de_len s k nl) (hpk s hs)⟩
      · rw [if_pos h3] at h; exact absurd h h3
    · rw [if_pos h2] at h; exact absurd h h2
theorem readM_good (d : Dl) (l : List Col) (mode : Int) (s : Str) (h : (readM d l mode s).2.k = 0) : (checkM (l.map nkC)).2 = 0 ∧ (readM d l mode s).2 = ⟨0, 0, 0, 0⟩ ∧ ∀ v ∈ (readM d l mode s).1, GoodR l (s.length + 1) v := by
  unfold readM at h ⊢
  by_cases h1 : (checkM (l.map nkC)).2 = 0
  · rw [if_neg (not_not_intro h1)] at h ⊢
    by_cases h2 : mode < 1 ∨ 3 < mode
    · rw [if_pos h2] at h; simp at h
    rw [if_neg h2] at h ⊢
    by_cases h3 : rightD d = false
    · rw [if_pos h3] at h; simp at h
    rw [if_neg h3] at h ⊢
    have hmb := parM_mb d wideL s
    generalize (parM d wideL s).rs.map Prod.fst = t at *
    refine ⟨h1, ?_⟩
    cases t with
    | nil =>
      rw [rdT] at h
      by_cases hk : (parM d wideL s).k = 0
      · rw [if_neg (not_not_intro hk)] at h; simp at h
      · rw [if_pos hk] at h; exact absurd h hk
    | cons r0 t =>
      rw [rdT] at h ⊢
      by_cases hb : (bindCM r0 (l.map nkC) mode).2.2 = 0
      · rw [if_neg (not_not_intro hb)] at h ⊢
        exact (rdF_good _ _ l _ _ (s.length + 1) t [] (fun r hr f hf => (hmb r (List.mem_cons_of_mem _ hr)).2 f hf) (by simp) h).2
      · rw [if_pos hb] at h; exact absurd h hb
  · rw [if_pos h1] at h; exact absurd h h1
theorem rdF_none (r0 : Nat) (p : List Int) (l : List Col) (fk fa : Int) : ∀ (t : List (List Str)) (out : List (List Val)), (rdF r0 p l fk fa t out).2.k ≠ 0 → (rdF r0 p l fk fa t out).1 = []
  | [], out, h => by
    rw [rdF] at h ⊢
    split at h
    · rw [if_pos (by assumption)]
    · simp at h
  | r :: t, out, h => by
    rw [rdF] at h ⊢
    split
    · rfl
    split
    · rfl
    split
    · rfl
    · rename_i h1 h2 h3
      rw [if_neg h1, if_neg h2, if_neg h3] at h
      exact rdF_none r0 p l fk fa t _ h
theorem readM_none (d : Dl) (l : List Col) (mode : Int) (s : Str) (h : (readM d l mode s).2.k ≠ 0) : (readM d l mode s).1 = [] := by
  unfold readM at h ⊢
  split
  · rfl
  split
  · rfl
  split
  · rfl
  rename_i h1 h2 h3
  rw [if_neg h1, if_neg h2, if_neg h3] at h
  generalize (parM d wideL s).rs.map Prod.fst = t at *
  cases t with
  | nil => rw [rdT]; split <;> rfl
  | cons r0 t =>
    rw [rdT] at h ⊢
    split
    · rfl
    · rename_i h4
      rw [if_neg h4] at h
      exact rdF_none _ _ _ _ _ _ _ h
theorem writeM_good (d : Dl) (l : List Col) (rows : List (List Val)) (h : (writeM d l rows).2.k = 0) : (checkM (l.map nkC)).2 = 0 ∧ rightD d = true ∧ (∀ v ∈ rows, (recM v l).2.2 = 0) ∧ writeM d l rows = (txtF d true (namesC l :: rows.map fun v => (recM v l).1), ⟨0, 0, 0, 0⟩) := by
  unfold writeM at h ⊢
  by_cases h1 : (checkM (l.map nkC)).2 = 0
  · rw [if_neg (not_not_intro h1)] at h ⊢
    cases hr : rightD d
    · rw [if_pos hr] at h; simp at h
    · rw [if_neg (by rw [hr]; decide)] at h
      rw [if_neg (by decide)]
      by_cases hk : (wrF l rows [namesC l]).2.k = 0
      · obtain ⟨g1, g2⟩ := wrF_ok l rows _ hk
        rw [if_neg (not_not_intro hk), g1]
        exact ⟨h1, rfl, g2, by simp⟩
      · rw [if_pos hk] at h; exact absurd h hk
  · rw [if_pos h1] at h; exact absurd h h1
theorem wrF_all (l : List Col) : ∀ (rows : List (List Val)) (out : List (List Str)), (∀ v ∈ rows, (recM v l).2.2 = 0) → (wrF l rows out).2.k = 0
  | [], out, _ => by rw [wrF]
  | v :: t, out, h => by
    rw [wrF, if_neg (not_not_intro (h v (by simp)))]
    exact wrF_all l t _ fun x hx => h x (List.mem_cons_of_mem _ hx)
theorem writeM_all (d : Dl) (l : List Col) (rows : List (List Val)) (h1 : (checkM (l.map nkC)).2 = 0) (hr : rightD d = true) (h : ∀ v ∈ rows, (recM v l).2.2 = 0) : (writeM d l rows).2.k = 0 := by
  unfold writeM
  rw [if_neg (not_not_intro h1), if_neg (by rw [hr]; decide), if_neg (not_not_intro (wrF_all l rows _ h))]
end Go.Proofs.YtdikpaochhacmaaGreatDoor
namespace Go.Proofs.YtdikpaochhacmaaGreatDoor
set_option linter.unusedSimpArgs false
set_option linter.unusedVariables false
open Go.RowKit
def bts (r : List Str) : Nat := (r.map List.length).sum
def totB (t : List (List Str)) : Nat := (t.map bts).sum
theorem bts_app (a b : List Str) : bts (a ++ b) = bts a + bts b := by simp [bts]
theorem bts_one (x : Str) : bts [x] = x.length := by simp [bts]
theorem bts_le {r : List Str} {x : Str} (h : x ∈ r) : x.length ≤ bts r := by
  induction r with
  | nil => simp at h
  | cons y r ih =>
    have e : bts (y :: r) = y.length + bts r := by simp [bts]
    rcases List.mem_cons.1 h with rfl | h
    · omega
    · have := ih h; omega
def BBm (m : Mk) (n : Nat) : Prop := m.fl.length + bts m.rc ≤ n
theorem BBm.up {m : Mk} {n n' : Nat} (h : BBm m n) (hn : n ≤ n') : BBm m n' := Nat.le_trans h hn
theorem BBm.put {m : Mk} {n : Nat} (h : BBm m n) : BBm m.put n := by
  unfold BBm at *
  simp only [Mk.put, bts_app, bts_one, List.length_nil]
  omega
theorem gather_bb {l : Lm} {m m' : Mk} {e : Ev} {n : Nat} (h : gather l m e = .ok m') (hb : BBm m n) : BBm m' (n + 1) := by
  unfold gather at h
  split at h
  · simp at h
  · rename_i m1 h1
    have b1 : BBm m1 n := by
      unfold gBegin at h1
      split at h1
      · split at h1
        · simp at h1
        · injection h1 with h1; subst h1; exact hb
      · injection h1 with h1; subst h1; exact hb
    split at h
    · simp at h
    · rename_i m2 h2
      have b2 : BBm m2 (n + 1) := by
        unfold gAdd at h2
        split at h2
        · split at h2
          · simp at h2
          · injection h2 with h2; subst h2
            unfold BBm at *
            simp only [List.length_append, List.length_singleton]
            omega
        · injection h2 with h2; subst h2; exact b1.up (Nat.le_succ _)
      split at h
      · simp at h
      · rename_i m3 h3
        have b3 : BBm m3 (n + 1) := by
          unfold gField at h3
          split at h3
          · split at h3
            · simp at h3
            · split at h3
              · simp at h3
              · injection h3 with h3; subst h3; exact b2.put
          · injection h3 with h3; subst h3; exact b2
        unfold gLine at h
        split at h
        · split at h
          · simp at h
          · injection h with h; subst h; exact b3.put
        · injection h with h; subst h; exact b3
theorem take_bb {l : Lm} {m : Mk} {e : Ev} {n : Nat} {x : Mk × Option (List Str)} (h : takeM l m e = .ok x) (hb : BBm m n) : bts (x.2.getD []) + (x.1.fl.length + bts x.1.rc) ≤ n + 1 := by
  unfold takeM at h
  split at h
  · simp at h
  · rename_i m1 h1
    have b1 := gather_bb h1 hb
    unfold BBm at b1
    split at h
    · injection h with h; subst h
      simp only [Mk.out, Option.getD_some, bts, List.map_nil, List.sum_nil] at *
      omega
    · injection h with h; subst h
      simp only [Option.getD_none, bts, List.map_nil, List.sum_nil] at *
      omega
theorem wrun_tot (d : Dl) (l : Lm) : ∀ (t : Str) (q st : Int) (m : Mk) (p n : Nat), BBm m n → totB ((wrun d l q st m p t).rs.map Prod.fst) ≤ n + t.length + 1 := by
  intro t
  induction t with
  | nil =>
    intro q st m p n hb
    rw [wrun_nil]
    cases h : endW l q st m with
    | error k => simp [totB]
    | ok r =>
      cases r with
      | none => simp [oneR, totB]
      | some r =>
        simp only [oneR, List.map_cons, List.map_nil, totB, List.sum_cons, List.sum_nil]
        unfold endW at h
        split at h
        · simp at h
        · unfold endR at h
          split at h
          · simp at h
          · split at h
            · simp at h
            · rename_i z hz
              have := take_bb hz hb
              have hz2 : z.2 = some r := by simpa using h
              rw [hz2, Option.getD_some] at this
              simp only [List.length_nil]
              omega
  | cons b t ih =>
    intro q st m p n hb
    rw [wrun_cons]
    cases h : stepW d l q st m b with
    | error k => simp [totB]
    | ok y =>
      simp only [Rs.pre, List.map_append, totB, List.sum_append]
      have hy : bts (y.2.2.2.getD []) + (y.2.2.1.fl.length + bts y.2.2.1.rc) ≤ n + 1 := by
        unfold stepW at h
        split at h
        · simp at h
        · split at h
          · simp at h
          · rename_i z hz
            injection h with h; subst h
            unfold stepR at hz
            split at hz
            · simp at hz
            · split at hz
              · simp at hz
              · rename_i u hu
                injection hz with hz; subst hz
                exact take_bb hu hb
      have h2 := ih y.1 y.2.1 y.2.2.1 (p + 1) (y.2.2.1.fl.length + bts y.2.2.1.rc) (Nat.le_refl _)
      unfold totB at h2
      have h3 : ((oneR y.2.2.2 p).map Prod.fst |>.map bts).sum = bts (y.2.2.2.getD []) := by
        cases y.2.2.2 with
        | none => simp [oneR, bts]
        | some r => simp [oneR]
      simp only [List.map_append, List.sum_append, List.length_cons] at *
      omega
theorem parM_tot (d : Dl) (l : Lm) (s : Str) : totB ((parM d l s).rs.map Prod.fst) ≤ s.length + 1 := by
  have := wrun_tot d l (stripM s) 0 0 {} (s.length - (stripM s).length) 0 (by simp [BBm, bts])
  have hl := (strip_drop s).2
  unfold parM
  omega
def szV (v : List Val) : Nat := (v.map fun x => x.s.length).sum
theorem szV_app (a b : List Val) : szV (a ++ b) = szV a + szV b := by simp [szV]
theorem rowF_sz : ∀ (r : List Str) (l : List Col) (o : List Val), szV (rowF r l o).1 ≤ szV o + bts r
  | [], _, o => by simp [rowF]
  | _ :: _, [], o => by simp [rowF]
  | s :: r, c :: l, o => by
    rw [rowF]
    have e : bts (s :: r) = s.length + bts r := by simp [bts]
    split
    · simp [szV]
    · have h1 := rowF_sz r l (o ++ [(deM s c.kind c.null).1])
      have h2 := de_len s c.kind c.null
      rw [szV_app] at h1
      have h3 : szV [(deM s c.kind c.null).1] = (deM s c.kind c.null).1.s.length := by simp [szV]
      omega
theorem rowM_sz (r : List Str) (l : List Col) : szV (rowM r l).1 ≤ bts r := by
  unfold rowM
  split
  · have := rowF_sz r l []
    simpa [szV] using this
  · simp [szV]
theorem pickF_sz (r : List Str) : ∀ (p : List Int) (out : List Str), bts (pickF r p out).1 ≤ bts out + p.length * bts r
  | [], out => by rw [pickF]; simp
  | x :: p, out => by
    rw [pickF]
    split
    · simp [bts]
    · have h1 := pickF_sz r p (out ++ [r.getD x.toNat default])
      rw [bts_app, bts_one] at h1
      have h2 : (r.getD x.toNat default).length ≤ bts r := by
        rcases Nat.lt_or_ge x.toNat r.length with h | h
        · exact bts_le (getD_mem r x.toNat (by omega))
        · rw [List.getD_eq_getElem?_getD, List.getElem?_eq_none h]; exact Nat.zero_le _
      simp only [List.length_cons, Nat.add_mul, Nat.one_mul]
      omega
theorem pickM_sz (r : List Str) (p : List Int) : bts (pickM r p).1 ≤ p.length * bts r := by
  unfold pickM
  split
  · simp [bts]
  · have := pickF_sz r p []
    simpa [bts] using this
def szT (t : List (List Val)) : Nat := (t.map szV).sum
theorem rdF_sz (r0 : Nat) (p : List Int) (l : List Col) (fk fa : Int) : ∀ (t : List (List Str)) (out : List (List Val)), szT (rdF r0 p l fk fa t out).1 ≤ szT out + p.length * totB t ∧ (rdF r0 p l fk fa t out).1.length ≤ out.length + t.length
  | [], out => by
    rw [rdF]
    split
    · simp [szT]
    · simp
  | r :: t, out => by
    rw [rdF]
    split
    · simp [szT]
    split
    · simp [szT]
    split
    · simp [szT]
    · obtain ⟨h1, h1'⟩ := rdF_sz r0 p l fk fa t (out ++ [(rowM (pickM r p).1 l).1])
      have h2 := rowM_sz (pickM r p).1 l
      have h3 := pickM_sz r p
      have e1 : szT (out ++ [(rowM (pickM r p).1 l).1]) = szT out + szV (rowM (pickM r p).1 l).1 := by simp [szT]
      have e2 : totB (r :: t) = bts r + totB t := by simp [totB]
      rw [e2, Nat.mul_add]
      simp only [List.length_append, List.length_cons, List.length_nil] at h1' ⊢
      omega
theorem bindCM_len2 (names : List Str) (l : List Col) (mode : Int) (h : (bindCM names (l.map nkC) mode).2.2 = 0) : (bindCM names (l.map nkC) mode).1.length = l.length := by
  unfold bindCM at h ⊢
  by_cases h1 : mode < 1 ∨ 3 < mode
  · rw [if_pos h1] at h; simp at h
  rw [if_neg h1] at h ⊢
  by_cases h2 : (checkM (l.map nkC)).2 ≠ 0
  · rw [if_pos h2] at h; exact absurd h h2
  rw [if_neg h2] at h ⊢
  by_cases h3 : (newM names).2 ≠ 0
  · rw [if_pos h3] at h; exact absurd h h3
  rw [if_neg h3] at h ⊢
  by_cases h4 : (bcF names mode ((l.map nkC).map (·.1)) []).2.2 ≠ 0
  · rw [if_pos h4] at h; exact absurd h h4
  rw [if_neg h4] at h ⊢
  have hb := (bcF_len names mode ((l.map nkC).map (·.1)) [] (Decidable.not_not.1 h4)).1
  simp only [List.length_map, List.length_nil, Nat.zero_add] at hb
  by_cases h5 : mode < 3
  · rw [if_pos h5] at h ⊢
    cases h6 : lackF ((l.map nkC).map (·.1)) names 0 with
    | none => exact hb
    | some i => rw [h6] at h; simp at h
  · rw [if_neg h5]; exact hb
theorem readM_sz (d : Dl) (l : List Col) (mode : Int) (s : Str) : szT (readM d l mode s).1 ≤ l.length * (s.length + 1) ∧ (readM d l mode s).1.length ≤ s.length + 1 := by
  unfold readM
  split
  · simp [szT]
  split
  · simp [szT]
  split
  · simp [szT]
  have ht := parM_tot d wideL s
  have hl : ((parM d wideL s).rs.map Prod.fst).length ≤ s.length + 1 := by rw [List.length_map]; exact parM_len _ _ _
  generalize (parM d wideL s).rs.map Prod.fst = t at *
  cases t with
  | nil => rw [rdT]; split <;> simp [szT]
  | cons r0 t =>
    rw [rdT]
    split
    · simp [szT]
    · rename_i h0
      obtain ⟨h1, h2⟩ := rdF_sz r0.length (bindCM r0 (l.map nkC) mode).1 l (parM d wideL s).k (parM d wideL s).a t []
      rw [bindCM_len2 r0 l mode (Decidable.not_not.1 h0)] at h1
      have e2 : totB (r0 :: t) = bts r0 + totB t := by simp [totB]
      have h3 : l.length * totB t ≤ l.length * (s.length + 1) := Nat.mul_le_mul_left _ (by omega)
      simp only [szT, List.map_nil, List.sum_nil, Nat.zero_add, List.length_cons, List.length_nil] at *
      exact ⟨by omega, by omega⟩
theorem lineF_sz (d : Dl) (n : Nat) (first : Bool) : ∀ (r : List Str) (i : Nat), (lineF d n first i r).length ≤ 2 * bts r + 3 * r.length
  | [], _ => by simp [lineF]
  | f :: r, i => by
    have h1 := lineF_sz d n first r (i + 1)
    have e : bts (f :: r) = f.length + bts r := by simp [bts]
    have h2 := lineF_len d n first f.length [f] i (fun x hx => by simp at hx; subst hx; exact Nat.le_refl _)
    have h3 : lineF d n first i (f :: r) = lineF d n first i [f] ++ lineF d n first (i + 1) r := by simp [lineF]
    rw [h3, List.length_append]
    simp only [List.length_cons, List.length_nil] at *
    omega
theorem txt_sz (d : Dl) : ∀ (t : List (List Str)) (first : Bool), (txtF d first t).length ≤ 2 * totB t + 3 * (t.map List.length).sum + 2 * t.length
  | [], _ => by simp [txtF]
  | r :: t, first => by
    have h1 := txt_sz d t false
    have h2 := lineF_sz d r.length first r 0
    have h3 := end_len d
    have e : totB (r :: t) = bts r + totB t := by simp [totB]
    simp only [txtF, lineM, List.length_append, List.map_cons, List.sum_cons, List.length_cons]
    omega
theorem enc_sz (v : Val) (k : Int) (nl : Bool) (hn : i64M v.n) : (encM v k nl).1.length ≤ v.s.length + 25 := enc_len v k nl (v.s.length + 25) (by omega) hn (by omega)
theorem recF_sz : ∀ (v : List Val) (l : List Col) (o : List Str), (∀ x ∈ v, i64M x.n) → bts (recF v l o).1 ≤ bts o + szV v + 25 * v.length
  | [], _, o, _ => by simp [recF, szV]
  | _ :: _, [], o, _ => by simp [recF, szV]; omega
  | x :: v, c :: l, o, h => by
    rw [recF]
    have e : szV (x :: v) = x.s.length + szV v := by simp [szV]
    split
    · simp [bts]
    · have h1 := recF_sz v l (o ++ [(encM x c.kind c.null).1]) fun y hy => h y (List.mem_cons_of_mem _ hy)
      have h2 := enc_sz x c.kind c.null (h x (by simp))
      rw [bts_app, bts_one] at h1
      simp only [List.length_cons]
      omega
theorem recM_sz (v : List Val) (l : List Col) (h : ∀ x ∈ v, i64M x.n) : bts (recM v l).1 ≤ szV v + 25 * v.length := by
  unfold recM
  split
  · have := recF_sz v l [] h
    simpa [bts] using this
  · simp [bts]
theorem recs_sz (l : List Col) (N : Nat) : ∀ (rows : List (List Val)), (∀ v ∈ rows, (recM v l).2.2 = 0 ∧ v.length ≤ N ∧ l.length ≤ N ∧ ∀ x ∈ v, i64M x.n) →
    totB (rows.map fun v => (recM v l).1) ≤ szT rows + 25 * N * rows.length ∧ ((rows.map fun v => (recM v l).1).map List.length).sum ≤ N * rows.length
  | [], _ => by simp [totB, szT]
  | v :: rows, h => by
    obtain ⟨h1, h2⟩ := recs_sz l N rows fun x hx => h x (List.mem_cons_of_mem _ hx)
    obtain ⟨g1, g2, g3, g4⟩ := h v (by simp)
    have h3 := recM_sz v l g4
    have h4 := (rec_row v l g4 g1).1
    have e1 : totB ((v :: rows).map fun v => (recM v l).1) = bts (recM v l).1 + totB (rows.map fun v => (recM v l).1) := by simp [totB]
    have e2 : szT (v :: rows) = szV v + szT rows := by simp [szT]
    have h5 : 25 * v.length ≤ 25 * N := Nat.mul_le_mul_left _ g2
    rw [e1, e2]
    simp only [List.map_cons, List.sum_cons, List.length_cons, Nat.mul_add, Nat.mul_one] at *
    generalize 25 * N * rows.length = z at *
    generalize N * rows.length = y at *
    exact ⟨by omega, by omega⟩
end Go.Proofs.YtdikpaochhacmaaGreatDoor
