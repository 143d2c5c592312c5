/- Chapter 02 (utf), plain: what can't be a sequence, and what is one. -/
import Derived.Test.YtdhieolfdlkeaaaL02
namespace Go.Proofs.Ytdhieolfdlkeaaa
set_option linter.unusedSimpArgs false
set_option linter.unusedVariables false

theorem u8i (n : Int) (h : 0 ≤ n ∧ n ≤ 255) : (((B n).toNat : Nat) : Int) = n := by
  unfold B; rw [UInt8.toNat_ofNat']; omega
theorem size_lead {x y z t : UInt8} {s lo hi k : Int} (L : Lead x.toNat s lo hi k) (hy : lo ≤ y.toNat ∧ (y.toNat : Int) ≤ hi) (hz : 128 ≤ (z.toNat : Int) ∧ (z.toNat : Int) ≤ 191) (ht : 128 ≤ (t.toNat : Int) ∧ (t.toNat : Int) ≤ 191) (r : List UInt8) :
    (sizeM (x :: y :: z :: t :: r) : Int) = k + 2 := by
  have hx : ¬ (x.toNat : Int) ≤ 127 := by have := L.big; omega
  rcases L.kk with rfl | rfl | rfl
  · rw [sizeM_2 x y _ hx ((L.o2 _).2 ⟨rfl, hy⟩)]; rfl
  · rw [sizeM_3 x y z _ hx (fun e => by have := ((L.o2 _).1 e).1; omega) ((L.o3 _ _).2 ⟨rfl, hy, hz⟩)]; rfl
  · rw [sizeM_4 x y z t _ hx (fun e => by have := ((L.o2 _).1 e).1; omega) (fun e => by have := ((L.o3 _ _).1 e).1; omega) ((L.o4 _ _ _).2 ⟨rfl, hy, hz, ht⟩)]; rfl
theorem Goes_t {u : List UInt8} {a b : Nat} (h4 : u.length ≤ 4) (ha : a < 64) (hb : b < goesW u) (h : u.length ≤ sizeM (u ++ [B (128 + a), B (128 + b), 128])) (h0 : 0 < sizeM (u ++ [B (128 + a), B (128 + b), 128])) : GoesM u = true := by
  have : goesM u = true := goesM_true ha hb (decide_eq_true ⟨h, h0⟩)
  simp [GoesM, this, h4]
theorem Goes_f {u : List UInt8} (hne : u ≠ []) (hs : sizeM u ≠ u.length) (h : ∀ e1 e2 : UInt8, sizeM (u ++ [e1, e2, 128]) = 0) : GoesM u = false := by
  have : goesM u = false := goesM_false fun a _ b _ => decide_eq_false (by rw [h]; omega)
  simp [GoesM, this, hne, hs]
theorem c128 : 128 ≤ (((128 : UInt8).toNat : Nat) : Int) ∧ (((128 : UInt8).toNat : Nat) : Int) ≤ 191 := by decide
theorem cB0 : 128 ≤ (((B (128 + (0 : Nat))).toNat : Nat) : Int) ∧ (((B (128 + (0 : Nat))).toNat : Nat) : Int) ≤ 191 := by decide
theorem goes1 {x : UInt8} {s lo hi k : Int} (L : Lead x.toNat s lo hi k) : GoesM [x] = true := by
  have hr := L.rg
  have hb : (((B (128 + ((lo - 128).toNat : Nat))).toNat : Nat) : Int) = lo := by rw [u8i _ (by omega)]; omega
  have := size_lead L (y := B (128 + ((lo - 128).toNat : Nat))) (z := B (128 + (0 : Nat))) (t := 128) (by rw [hb]; omega) cB0 c128 []
  have hk := L.kk
  exact Goes_t (a := (lo - 128).toNat) (b := 0) (by simp) (by omega) (by simp [goesW]) (by simp only [List.length_cons, List.length_nil, List.cons_append, List.nil_append]; omega) (by simp only [List.cons_append, List.nil_append]; omega)
theorem goes2 {x y : UInt8} {s lo hi k : Int} (L : Lead x.toNat s lo hi k) (hy : lo ≤ y.toNat ∧ (y.toNat : Int) ≤ hi) : GoesM [x, y] = true := by
  have := size_lead L hy (z := B (128 + (0 : Nat))) (t := B (128 + (0 : Nat))) cB0 cB0 [128]
  have hk := L.kk
  exact Goes_t (a := 0) (b := 0) (by simp) (by omega) (by simp [goesW]) (by simp only [List.length_cons, List.length_nil, List.cons_append, List.nil_append]; omega) (by simp only [List.cons_append, List.nil_append]; omega)
theorem goes3 {x y z : UInt8} {s lo hi : Int} (L : Lead x.toNat s lo hi 2) (hy : lo ≤ y.toNat ∧ (y.toNat : Int) ≤ hi) (hz : 128 ≤ (z.toNat : Int) ∧ (z.toNat : Int) ≤ 191) : GoesM [x, y, z] = true := by
  have := size_lead L hy hz (t := B (128 + (0 : Nat))) cB0 [B (128 + (0 : Nat)), 128]
  exact Goes_t (a := 0) (b := 0) (by simp) (by omega) (by simp [goesW]) (by simp only [List.length_cons, List.length_nil, List.cons_append, List.nil_append]; omega) (by simp only [List.cons_append, List.nil_append]; omega)
theorem goes0 {x : UInt8} (h0 : 127 < (x.toNat : Int)) (h1 : ¬ (194 ≤ (x.toNat : Int) ∧ (x.toNat : Int) ≤ 244)) : GoesM [x] = false := by
  refine Goes_f (by simp) (by rw [sizeM_x x (by omega)]; simp) fun e1 e2 => ?_
  exact sizeM_no x e1 e2 128 [] (by omega) (by unfold ok2; omega) (by unfold ok3; omega) (by unfold ok4; omega)
theorem goes2f {x y : UInt8} {s lo hi k : Int} (L : Lead x.toNat s lo hi k) (hy : ¬ (lo ≤ y.toNat ∧ (y.toNat : Int) ≤ hi)) : GoesM [x, y] = false := by
  have hx : ¬ (x.toNat : Int) ≤ 127 := by have := L.big; omega
  refine Goes_f (by simp) (by rw [sizeM_xy x y hx (fun e => hy ((L.o2 _).1 e).2)]; simp) fun e1 e2 => ?_
  exact sizeM_no x y e1 e2 [128] hx (fun e => hy ((L.o2 _).1 e).2) (fun e => hy ((L.o3 _ _).1 e).2.1) (fun e => hy ((L.o4 _ _ _).1 e).2.1)
theorem goes3f {x y z : UInt8} {s lo hi k : Int} (L : Lead x.toNat s lo hi k) (hk : k ≠ 0) (hz : ¬ (128 ≤ (z.toNat : Int) ∧ (z.toNat : Int) ≤ 191)) : GoesM [x, y, z] = false := by
  have hx : ¬ (x.toNat : Int) ≤ 127 := by have := L.big; omega
  refine Goes_f (by simp) (by rw [sizeM_xyz x y z hx (fun e => hk ((L.o2 _).1 e).1) (fun e => hz ((L.o3 _ _).1 e).2.2)]; simp) fun e1 e2 => ?_
  exact sizeM_no x y z e1 [e2, 128] hx (fun e => hk ((L.o2 _).1 e).1) (fun e => hz ((L.o3 _ _).1 e).2.2) (fun e => hz ((L.o4 _ _ _).1 e).2.2.1)
theorem goes4f {x y z t : UInt8} {s lo hi : Int} (L : Lead x.toNat s lo hi 2) (ht : ¬ (128 ≤ (t.toNat : Int) ∧ (t.toNat : Int) ≤ 191)) : GoesM [x, y, z, t] = false := by
  have hx : ¬ (x.toNat : Int) ≤ 127 := by have := L.big; omega
  have n2 : ¬ ok2 x.toNat y.toNat := fun e => by have := ((L.o2 _).1 e).1; omega
  have n3 : ¬ ok3 x.toNat y.toNat z.toNat := fun e => by have := ((L.o3 _ _).1 e).1; omega
  have n4 : ¬ ok4 x.toNat y.toNat z.toNat t.toNat := fun e => ht ((L.o4 _ _ _).1 e).2.2.2
  refine Goes_f (by simp) (by rw [sizeM_no x y z t [] hx n2 n3 n4]; simp) fun e1 e2 => ?_
  exact sizeM_no x y z t [e1, e2, 128] hx n2 n3 n4

/-- What the walk says of a text that begins with no sequence. -/
structure Dead (r : List UInt8) (m : Nat) : Prop where
  run : (runM 0 r).2 = m
  le : m ≤ r.length
  yes : ∀ n, 1 ≤ n → n ≤ m → GoesM (r.take n) = true
  no : m < r.length → GoesM (r.take (m + 1)) = false
  st : m = r.length → (runM 0 r).1 ≠ 0
  lng : ∀ best i, longM 0 best i r = best
theorem dead_of (r : List UInt8) (hne : r ≠ []) (h : sizeM r = 0) : ∃ m, Dead r m := by
  match r, hne with
  | x :: r, _ =>
    have hxx := x.toNat_lt
    have hx : ¬ (x.toNat : Int) ≤ 127 := fun e => by rw [sizeM_1 x r e] at h; cases h
    by_cases hl : 194 ≤ (x.toNat : Int) ∧ (x.toNat : Int) ≤ 244
    · obtain ⟨s, lo, hi, k, L⟩ := lead_of _ hl
      have y1 : ∀ (q : List UInt8) (n : Nat), 1 ≤ n → n ≤ 1 → GoesM ((x :: q).take n) = true := fun q n h1 h2 => by
        obtain rfl : n = 1 := by omega
        exact goes1 L
      match r with
      | [] => exact ⟨1, ⟨by rw [run_y L.st]; rfl, by simp, y1 _, by simp, fun _ => by rw [run_y L.st]; exact L.nz, fun b i => by rw [long_y L.st, if_neg L.nz]; rfl⟩⟩
      | y :: r =>
        by_cases hy : lo ≤ (y.toNat : Int) ∧ (y.toNat : Int) ≤ hi
        · have sy : stepM s y.toNat = (k, true) := by rw [L.nx, fol_y hy]
          have hk : k ≠ 0 := fun e => by rw [sizeM_2 x y r hx ((L.o2 _).2 ⟨e, hy⟩)] at h; cases h
          have y12 : ∀ n, 1 ≤ n → n ≤ 2 → GoesM ((x :: y :: r).take n) = true := fun n h1 h2 => by
            obtain rfl | rfl : n = 1 ∨ n = 2 := by omega
            · exact goes1 L
            · exact goes2 L hy
          match r with
          | [] => exact ⟨2, ⟨by rw [run_y L.st, run_y sy]; rfl, by simp, y12, by simp, fun _ => by rw [run_y L.st, run_y sy]; exact hk, fun b i => by rw [long_y L.st, if_neg L.nz, long_y sy, if_neg hk]; rfl⟩⟩
          | z :: r =>
            by_cases hz : 128 ≤ (z.toNat : Int) ∧ (z.toNat : Int) ≤ 191
            · have hk2 : k = 2 := by
                rcases L.kk with e | e | e
                · exact absurd e hk
                · rw [sizeM_3 x y z r hx (fun e2 => hk ((L.o2 _).1 e2).1) ((L.o3 _ _).2 ⟨e, hy, hz⟩)] at h; cases h
                · exact e
              subst hk2
              have sz : stepM 2 z.toNat = (1, true) := by rw [st2, fol_y hz]
              have y123 : ∀ n, 1 ≤ n → n ≤ 3 → GoesM ((x :: y :: z :: r).take n) = true := fun n h1 h2 => by
                obtain h3 | rfl : n ≤ 2 ∨ n = 3 := by omega
                · exact y12 n h1 h3
                · exact goes3 L hy hz
              match r with
              | [] => exact ⟨3, ⟨by rw [run_y L.st, run_y sy, run_y sz]; rfl, by simp, y123, by simp, fun _ => by rw [run_y L.st, run_y sy, run_y sz]; simp [runM], fun b i => by rw [long_y L.st, if_neg L.nz, long_y sy, if_neg hk, long_y sz]; rfl⟩⟩
              | t :: r =>
                have ht : ¬ (128 ≤ (t.toNat : Int) ∧ (t.toNat : Int) ≤ 191) := fun ht => by
                  rw [sizeM_4 x y z t r hx (fun e => by have := ((L.o2 _).1 e).1; omega) (fun e => by have := ((L.o3 _ _).1 e).1; omega) ((L.o4 _ _ _).2 ⟨rfl, hy, hz, ht⟩)] at h; cases h
                have sn : stepM 1 t.toNat = (0, false) := by rw [st1, fol_n ht]
                exact ⟨3, ⟨by rw [run_y L.st, run_y sy, run_y sz, run_n sn], by simp, y123, fun _ => goes4f L ht, fun e => by simp at e, fun b i => by rw [long_y L.st, if_neg L.nz, long_y sy, if_neg hk, long_y sz, long_n sn]; rfl⟩⟩
            · have sn : stepM k z.toNat = (0, false) := by
                rcases L.kk with e | e | e
                · exact absurd e hk
                · rw [e, st1, fol_n hz]
                · rw [e, st2, fol_n hz]
              exact ⟨2, ⟨by rw [run_y L.st, run_y sy, run_n sn], by simp, y12, fun _ => goes3f L hk hz, fun e => by simp at e, fun b i => by rw [long_y L.st, if_neg L.nz, long_y sy, if_neg hk, long_n sn]⟩⟩
        · have sn : stepM s y.toNat = (0, false) := by rw [L.nx, fol_n hy]
          exact ⟨1, ⟨by rw [run_y L.st, run_n sn], by simp, y1 _, fun _ => goes2f L hy, fun e => by simp at e, fun b i => by rw [long_y L.st, if_neg L.nz, long_n sn]⟩⟩
    · have sn := nolead x.toNat (by omega) hl
      exact ⟨0, ⟨by rw [run_n sn], by simp, fun n h1 h2 => by omega, fun _ => goes0 (by omega) hl, fun e => by simp at e, fun b i => by rw [long_n sn]⟩⟩
/-- What the walk says of a text that begins with a sequence. -/
structure Alive (r : List UInt8) (n : Nat) : Prop where
  r1 : (runM 0 r).1 = (runM 0 (r.drop n)).1
  r2 : (runM 0 r).2 = n + (runM 0 (r.drop n)).2
  lng : ∀ best i, longM 0 best i r = longM 0 (i + n) (i + n) (r.drop n)
theorem alive_of (r : List UInt8) (h : 0 < sizeM r) : Alive r (sizeM r) := by
  match r with
  | [] => rw [sizeM_nil] at h; omega
  | x :: r =>
    have hxx := x.toNat_lt
    by_cases hx : (x.toNat : Int) ≤ 127
    · rw [sizeM_1 x r hx]
      have sx := ascii x.toNat hx
      exact ⟨by rw [run_y sx]; rfl, by rw [run_y sx]; simp only [List.drop_succ_cons, List.drop_zero]; omega, fun b i => by rw [long_y sx, if_pos rfl]; rfl⟩
    by_cases hl : 194 ≤ (x.toNat : Int) ∧ (x.toNat : Int) ≤ 244
    · obtain ⟨s, lo, hi, k, L⟩ := lead_of _ hl
      match r with
      | [] => rw [sizeM_x x hx] at h; omega
      | y :: r =>
        by_cases hy : lo ≤ (y.toNat : Int) ∧ (y.toNat : Int) ≤ hi
        · have sy : stepM s y.toNat = (k, true) := by rw [L.nx, fol_y hy]
          by_cases hk : k = 0
          · subst hk
            rw [sizeM_2 x y r hx ((L.o2 _).2 ⟨rfl, hy⟩)]
            exact ⟨by rw [run_y L.st, run_y sy]; rfl, by rw [run_y L.st, run_y sy]; simp only [List.drop_succ_cons, List.drop_zero]; omega, fun b i => by rw [long_y L.st, if_neg L.nz, long_y sy, if_pos rfl]; rfl⟩
          · have n2 : ¬ ok2 x.toNat y.toNat := fun e => hk ((L.o2 _).1 e).1
            match r with
            | [] => rw [sizeM_xy x y hx n2] at h; omega
            | z :: r =>
              by_cases hz : 128 ≤ (z.toNat : Int) ∧ (z.toNat : Int) ≤ 191
              · rcases L.kk with e | e | e
                · exact absurd e hk
                · subst e
                  have sz : stepM 1 z.toNat = (0, true) := by rw [st1, fol_y hz]
                  rw [sizeM_3 x y z r hx n2 ((L.o3 _ _).2 ⟨rfl, hy, hz⟩)]
                  exact ⟨by rw [run_y L.st, run_y sy, run_y sz]; rfl, by rw [run_y L.st, run_y sy, run_y sz]; simp only [List.drop_succ_cons, List.drop_zero]; omega, fun b i => by rw [long_y L.st, if_neg L.nz, long_y sy, if_neg hk, long_y sz, if_pos rfl]; rfl⟩
                · subst e
                  have n3 : ¬ ok3 x.toNat y.toNat z.toNat := fun e => by have := ((L.o3 _ _).1 e).1; omega
                  have sz : stepM 2 z.toNat = (1, true) := by rw [st2, fol_y hz]
                  match r with
                  | [] => rw [sizeM_xyz x y z hx n2 n3] at h; omega
                  | t :: r =>
                    by_cases ht : 128 ≤ (t.toNat : Int) ∧ (t.toNat : Int) ≤ 191
                    · have st : stepM 1 t.toNat = (0, true) := by rw [st1, fol_y ht]
                      rw [sizeM_4 x y z t r hx n2 n3 ((L.o4 _ _ _).2 ⟨rfl, hy, hz, ht⟩)]
                      exact ⟨by rw [run_y L.st, run_y sy, run_y sz, run_y st]; rfl, by rw [run_y L.st, run_y sy, run_y sz, run_y st]; simp only [List.drop_succ_cons, List.drop_zero]; omega, fun b i => by rw [long_y L.st, if_neg L.nz, long_y sy, if_neg hk, long_y sz, if_neg (by omega), long_y st, if_pos rfl]; rfl⟩
                    · rw [sizeM_no x y z t r hx n2 n3 (fun e => ht ((L.o4 _ _ _).1 e).2.2.2)] at h; omega
              · have n3 : ¬ ok3 x.toNat y.toNat z.toNat := fun e => hz ((L.o3 _ _).1 e).2.2
                match r with
                | [] => rw [sizeM_xyz x y z hx n2 n3] at h; omega
                | t :: r => rw [sizeM_no x y z t r hx n2 n3 (fun e => hz ((L.o4 _ _ _).1 e).2.2.1)] at h; omega
        · have n2 : ¬ ok2 x.toNat y.toNat := fun e => hy ((L.o2 _).1 e).2
          match r with
          | [] => rw [sizeM_xy x y hx n2] at h; omega
          | z :: r =>
            have n3 : ¬ ok3 x.toNat y.toNat z.toNat := fun e => hy ((L.o3 _ _).1 e).2.1
            match r with
            | [] => rw [sizeM_xyz x y z hx n2 n3] at h; omega
            | t :: r => rw [sizeM_no x y z t r hx n2 n3 (fun e => hy ((L.o4 _ _ _).1 e).2.1)] at h; omega
    · exfalso
      have n2 : ∀ y, ¬ ok2 x.toNat y := fun y e => by unfold ok2 at e; omega
      have n3 : ∀ y z, ¬ ok3 x.toNat y z := fun y z e => by unfold ok3 at e; omega
      have n4 : ∀ y z t, ¬ ok4 x.toNat y z t := fun y z t e => by unfold ok4 at e; omega
      match r with
      | [] => rw [sizeM_x x hx] at h; omega
      | [y] => rw [sizeM_xy x y hx (n2 _)] at h; omega
      | [y, z] => rw [sizeM_xyz x y z hx (n2 _) (n3 _ _)] at h; omega
      | y :: z :: t :: r => rw [sizeM_no x y z t r hx (n2 _) (n3 _ _) (n4 _ _ _)] at h; omega
end Go.Proofs.Ytdhieolfdlkeaaa
