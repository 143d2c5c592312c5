/- Chapter 06: the laws WholeFront and WholeLimits, walked. -/
import Derived.Test.YtdhieolfdlkeaaaK06
namespace Go.Proofs.Ytdhieolfdlkeaaa
set_option linter.unusedSimpArgs false
set_option linter.unusedVariables false
attribute [local irreducible] SemK UnitK StK AlcK BslK CallK CallV Instr.box Builtin.append_ Instr.makeSlice Instr.makeMap Instr.lookup Instr.mapUpdate Instr.sliceAt convert
open Go.RowKit
def nFront (A : Rs) : Nat := if A.k = 0 ∧ 0 < A.rs.length then A.rs.length - 1 else A.rs.length
def Front (A B : Rs) (K : Nat) : Prop := (A.k ≠ 0 → A.a < K → A.k = B.k ∧ A.a = B.a) ∧ nFront A ≤ B.rs.length ∧ ∀ i, i < nFront A → (A.rs.map Prod.fst).getD i [] = (B.rs.map Prod.fst).getD i []
theorem nF_le (A : Rs) : nFront A ≤ A.rs.length := by unfold nFront; split <;> omega
theorem getD_app_l {α : Type} (x y : List α) (d : α) (i : Nat) (h : i < x.length) : (x ++ y).getD i d = x.getD i d := by
  simp [List.getD_eq_getElem?_getD, List.getElem?_append_left h]
theorem nF_err (rs : List (List Str × Nat)) (k : Int) (a : Nat) (h : k ≠ 0) : nFront ⟨rs, k, a⟩ = rs.length := by unfold nFront; rw [if_neg (fun h' => h h'.1)]
theorem nF_ok (rs : List (List Str × Nat)) (a : Nat) : nFront ⟨rs, 0, a⟩ = rs.length - 1 := by
  unfold nFront
  by_cases h : 0 < rs.length
  · rw [if_pos ⟨rfl, h⟩]
  · rw [if_neg (fun h' => h h'.2)]
    simp only at h ⊢; omega
theorem front_core (d : Dl) (l : Lm) (a b : Str) (p : Nat) : Front (wrun d l 0 0 {} p a) (wrun d l 0 0 {} p (a ++ b)) (p + a.length) := by
  rcases wrun_app d l b a 0 0 {} p with ⟨h1, h2, h3⟩ | ⟨q', st', m', acc, h1, h2⟩
  · rw [h1]; exact ⟨fun _ _ => ⟨rfl, rfl⟩, nF_le _, fun _ _ => rfl⟩
  · rw [wrun_nil] at h2
    rw [h1]
    cases he : endW l q' st' m' with
    | error k =>
      have hk := endW_err he
      rw [he] at h2
      have h3 : wrun d l 0 0 {} p a = ⟨acc, k, p + a.length⟩ := by rw [h2]; simp [Rs.pre]
      rw [h3]
      have hn := nF_err acc k (p + a.length) (by omega)
      refine ⟨fun _ h => by simp at h, ?_, fun i hi => ?_⟩
      · rw [hn]; simp [Rs.pre]
      · rw [hn] at hi
        simp only [Rs.pre, List.map_append]
        rw [getD_app_l _ _ _ _ (by simpa using hi)]
    | ok r =>
      rw [he] at h2
      have hl : (oneR r (p + a.length)).length ≤ 1 := by cases r <;> simp [oneR]
      have h3 : wrun d l 0 0 {} p a = ⟨acc ++ oneR r (p + a.length), 0, 0⟩ := by rw [h2]; simp [Rs.pre]
      rw [h3]
      have hn := nF_ok (acc ++ oneR r (p + a.length)) 0
      rw [List.length_append] at hn
      refine ⟨fun h => by simp at h, ?_, fun i hi => ?_⟩
      · rw [hn]; simp [Rs.pre]; omega
      · simp only [Rs.pre, List.map_append]
        rw [getD_app_l _ _ _ _ (by simp; omega), getD_app_l _ _ _ _ (by simp; omega)]
theorem hi_step (d : Dl) (hd : Rt d) (hb : d.dl < 128 ∧ d.q < 128) (b : UInt8) (h : 128 ≤ (b.toNat : Int)) (st : Int) (hs : st = 0 ∨ st = 2) (m : Mk) (hm : m.fl.length < 10 ∧ m.bg < 10) : ∃ m', stepR d wideL st m b = .ok (2, m', none) ∧ m'.fl.length ≤ m.fl.length + 1 ∧ m'.bg ≤ m.bg + 1 := by
  rcases hs with rfl | rfl
  · rw [s0b (by omega) (by omega), if_neg (by simp only [wideL]; omega), s12x (.inl rfl) (by omega) (by omega) (by omega) (by omega), if_neg (by simp only [wideL]; omega)]
    exact ⟨_, rfl, by simp, by simp⟩
  · rw [s12x (.inr rfl) (by omega) (by omega) (by omega) (by omega), if_neg (by simp only [wideL]; omega)]
    exact ⟨_, rfl, by simp, by simp⟩
theorem front (d : Dl) (hr : rightD d = true) (s : Str) (k : Nat) (hk : k ≤ s.length) : Front (parM d wideL (s.take k)) (parM d wideL s) k := by
  have hd := right_rt hr
  unfold parM
  by_cases h : s.take 3 = [239, 187, 191]
  · have hl := congrArg List.length h
    simp at hl
    have hm : stripM s = s.drop 3 := by unfold stripM; rw [if_pos h]
    by_cases hk3 : 3 ≤ k
    · have hm2 : stripM (s.take k) = (s.take k).drop 3 := by
        unfold stripM
        rw [if_pos (by rw [List.take_take, Nat.min_eq_left hk3]; exact h)]
      have e1 : s.length - (s.drop 3).length = 3 := by simp; omega
      have e2 : (s.take k).length - ((s.take k).drop 3).length = 3 := by simp; omega
      rw [hm, hm2, e1, e2]
      have hab : s.drop 3 = (s.take k).drop 3 ++ (s.drop k) := by
        rw [List.drop_take, show s.drop k = (s.drop 3).drop (k - 3) by rw [List.drop_drop]; congr 1; omega, List.take_append_drop]
      have := front_core d wideL ((s.take k).drop 3) (s.drop k) 3
      rw [← hab, show 3 + ((s.take k).drop 3).length = k by simp; omega] at this
      exact this
    · have hmk : s.take k = ([239, 187, 191] : Str).take k := by rw [← h, List.take_take, Nat.min_eq_left (by omega)]
      have hm2 : stripM (s.take k) = s.take k := by
        unfold stripM
        rw [if_neg]
        intro e
        have := congrArg List.length e
        simp at this; omega
      rw [hm2, Nat.sub_self, hmk]
      have hq : d.dl < 128 ∧ d.q < 128 := by
        unfold rightD mayB at hr
        simp only [Bool.and_eq_true, decide_eq_true_eq] at hr
        omega
      have key : (wrun d wideL 0 0 {} 0 (([239, 187, 191] : Str).take k)).rs = [] ∧ ((wrun d wideL 0 0 {} 0 (([239, 187, 191] : Str).take k)).k = 0 ∨ k ≤ (wrun d wideL 0 0 {} 0 (([239, 187, 191] : Str).take k)).a) := by
        have : k = 0 ∨ k = 1 ∨ k = 2 := by omega
        rcases this with rfl | rfl | rfl
        · exact ⟨rfl, .inl rfl⟩
        · obtain ⟨m1, h1, _, _⟩ := hi_step d hd hq 239 (by decide) 0 (.inl rfl) {} (by decide)
          have e : stepW d wideL 0 0 {} 239 = .ok (2, 2, m1, none) := by unfold stepW; rw [if_neg (by decide), h1]; rfl
          simp only [List.take_succ_cons, List.take_zero]
          rw [wrun_cons, e]
          simp only
          rw [wrun_nil, show endW wideL 2 2 m1 = .error 12 from rfl]
          exact ⟨rfl, .inr (by decide)⟩
        · obtain ⟨m1, h1, b1, b2⟩ := hi_step d hd hq 239 (by decide) 0 (.inl rfl) {} (by decide)
          have e : stepW d wideL 0 0 {} 239 = .ok (2, 2, m1, none) := by unfold stepW; rw [if_neg (by decide), h1]; rfl
          obtain ⟨m2, h2, _, _⟩ := hi_step d hd hq 187 (by decide) 2 (.inr rfl) m1 (by simp at b1 b2; omega)
          have e2 : stepW d wideL 2 2 m1 187 = .ok (1, 2, m2, none) := by unfold stepW; rw [if_neg (by decide), h2]; rfl
          simp only [List.take_succ_cons, List.take_zero]
          rw [wrun_cons, e]
          simp only
          rw [wrun_cons, e2]
          simp only
          rw [wrun_nil, show endW wideL 1 2 m2 = .error 12 from rfl]
          exact ⟨rfl, .inr (by decide)⟩
      obtain ⟨h1, h2⟩ := key
      have hn : nFront (wrun d wideL 0 0 {} 0 (([239, 187, 191] : Str).take k)) = 0 := by unfold nFront; rw [h1]; simp
      exact ⟨fun h0 h3 => by rcases h2 with h2 | h2; exact absurd h2 h0; omega, by rw [hn]; omega, fun i hi => by rw [hn] at hi; omega⟩
  · have hm : stripM s = s := by unfold stripM; rw [if_neg h]
    have hm2 : stripM (s.take k) = s.take k := by
      unfold stripM
      rw [if_neg]
      intro e
      apply h
      have hl := congrArg List.length e
      rw [List.take_take] at e hl
      simp at hl
      rw [Nat.min_eq_left (by omega)] at e
      exact e
    rw [hm, hm2, Nat.sub_self, Nat.sub_self]
    have := front_core d wideL (s.take k) (s.drop k) 0
    rw [List.take_append_drop, show 0 + (s.take k).length = k by simp; omega] at this
    exact this
theorem wrun_len (d : Dl) (l : Lm) : ∀ (t : Str) (q st : Int) (m : Mk) (p : Nat), (wrun d l q st m p t).rs.length ≤ t.length + 1 := by
  intro t
  induction t with
  | nil =>
    intro q st m p
    rw [wrun_nil]
    cases h : endW l q st m with
    | error k => simp
    | ok r => cases r <;> simp [oneR]
  | cons b t ih =>
    intro q st m p
    rw [wrun_cons]
    cases h : stepW d l q st m b with
    | error k => simp
    | ok x =>
      have := ih x.1 x.2.1 x.2.2.1 (p + 1)
      cases hx : x.2.2.2 <;> simp [Rs.pre, oneR, hx] <;> omega
theorem par_len (d : Dl) (l : Lm) (s : Str) : (parM d l s).rs.length ≤ s.length + 1 := by
  have h1 := wrun_len d l (stripM s) 0 0 {} (s.length - (stripM s).length)
  have h2 := (strip_drop s).2
  unfold parM
  omega
theorem fits_wide : fitsL wideL = true := by decide
theorem walk_wide {d : Dl} (hr : rightD d = true) (s : Str) : walkM d wideL s = parM d wideL s := by
  unfold walkM; rw [if_neg (by rw [hr]; decide), if_neg (by rw [fits_wide]; decide)]
def c4l1 : MC := (.seq (.reg [qq 79 (.bin .lss (.tmp 78) (.tmp 77))]) (.seq (.cond (.tmp 79) .skip (.exit 0)) (.seq (.blk 1 (.seq (.reg [qm 80 78, qm 14 80]) (.seq (.drg [qm 81 9, qm 82 14, qq 83 (.adr 1 (.tmp 81) (.tmp 82)), qq 84 (.ld none (.tmp 83)), qm 85 11, qm 86 14, qq 87 (.adr 1 (.tmp 85) (.tmp 86)), qq 88 (.ld none (.tmp 87)), qq 89 (.call 24 [(.tmp 84), (.tmp 88)]), qq 90 (.un .not (.tmp 89))] (.some (.br [qm 81 9, qm 82 14, qq 83 (.adr 1 (.tmp 81) (.tmp 82)), qm 85 11, qm 86 14, qq 87 (.adr 1 (.tmp 85) (.tmp 86))] (.leaf [qq 84 (.ld none (.tmp 83)), qq 88 (.ld none (.tmp 87)), qq 89 (.call 24 [(.tmp 84), (.tmp 88)]), qq 90 (.un .not (.tmp 89))]) (.leaf [qq 88 (.ld none (.tmp 87)), qq 84 (.ld none (.tmp 83)), qq 89 (.call 24 [(.tmp 84), (.tmp 88)]), qq 90 (.un .not (.tmp 89))])))) (.cond (.tmp 90) (.seq (.reg [qq 6 (.mv (kb false))]) .ret) .skip)))) (.reg [qq 91 (.bin .add (.tmp 78) (ki 1)), qm 78 91]))))
def c4 : MC := (.seq (.reg [qq 3 (.raw (.box 23 (.tmp 0)) 0), qq 6 (.mv (kb false))]) (.seq (.seq (.reg [qm 15 1, qq 16 (.lenS (.tmp 15)), qq 17 (.bin .gtr (.tmp 16) (ki 300)), qm 18 17, qf 18 19 (.ld (.some 3) (.tmp 3)), qf 18 20 (.call 19 [(.tmp 19)]), qf 18 21 (.call 18 [(.tmp 20)]), qf 18 22 (.un .not (.tmp 21)), qq 23 (.pick (.tmp 18) (kb true) (.tmp 22))]) (.cond (.tmp 23) (.seq (.reg [qq 24 (.call 16 []), qm 6 24]) .ret) .skip)) (.seq (.reg [qq 25 (.bld [(.int .i64 0), (.int .i64 0), (.int .i64 0), (.bool false)] [⟨0, ⟨1, (ki 2147483648)⟩⟩, ⟨1, ⟨1, (ki 2147483648)⟩⟩, ⟨2, ⟨1, (ki 2147483648)⟩⟩]), qq 7 (.alc 25 [(.int .i64 0), (.int .i64 0), (.int .i64 0), (.bool false)]), qn (.st 4 (.tmp 7) (.tmp 25))]) (.seq (.reg [qm 26 2, qq 27 (.cvi .i64 (.tmp 26)), qm 28 1, qq 29 (.lenS (.tmp 28)), qq 30 (.bin .add (.tmp 29) (ki 1)), qq 31 (.bin .rem (.tmp 27) (.tmp 30)), qm 8 31]) (.seq (.drg [qq 33 (.ld (.some 3) (.tmp 3)), qq 34 (.ld (.some 4) (.tmp 7)), qm 35 1, qm 36 8, qq 37 (.slS (.tmp 35) none (.some (.tmp 36))), qq 38 (.call 17 [(.tmp 33), (.tmp 34), (.tmp 37)]), qm 32 38, qq 39 (.ext 0 (.tmp 32)), qq 40 (.ext 1 (.tmp 32)), qq 10 (.alc 30 [(.int .i64 0), (.int .i64 0)]), qm 9 39, qn (.st 2 (.tmp 10) (.tmp 40))] (.some (.br [qm 35 1, qm 36 8, qq 37 (.slS (.tmp 35) none (.some (.tmp 36)))] (.br [qq 33 (.ld (.some 3) (.tmp 3))] (.br [qq 34 (.ld (.some 4) (.tmp 7))] (.leaf [qq 38 (.call 17 [(.tmp 33), (.tmp 34), (.tmp 37)]), qm 32 38, qq 39 (.ext 0 (.tmp 32)), qq 40 (.ext 1 (.tmp 32)), qq 10 (.alc 30 [(.int .i64 0), (.int .i64 0)]), qm 9 39, qn (.st 2 (.tmp 10) (.tmp 40))]) (.leaf [qq 10 (.alc 30 [(.int .i64 0), (.int .i64 0)]), qq 38 (.call 17 [(.tmp 33), (.tmp 34), (.tmp 37)]), qm 32 38, qq 39 (.ext 0 (.tmp 32)), qq 40 (.ext 1 (.tmp 32)), qm 9 39, qn (.st 2 (.tmp 10) (.tmp 40))])) (.leaf [qq 10 (.alc 30 [(.int .i64 0), (.int .i64 0)]), qq 34 (.ld (.some 4) (.tmp 7)), qq 38 (.call 17 [(.tmp 33), (.tmp 34), (.tmp 37)]), qm 32 38, qq 39 (.ext 0 (.tmp 32)), qq 40 (.ext 1 (.tmp 32)), qm 9 39, qn (.st 2 (.tmp 10) (.tmp 40))])) (.br [] (.br [qq 34 (.ld (.some 4) (.tmp 7))] (.br [qq 33 (.ld (.some 3) (.tmp 3))] (.leaf [qq 38 (.call 17 [(.tmp 33), (.tmp 34), (.tmp 37)]), qm 32 38, qq 39 (.ext 0 (.tmp 32)), qq 40 (.ext 1 (.tmp 32)), qq 10 (.alc 30 [(.int .i64 0), (.int .i64 0)]), qm 9 39, qn (.st 2 (.tmp 10) (.tmp 40))]) (.leaf [qq 10 (.alc 30 [(.int .i64 0), (.int .i64 0)]), qq 38 (.call 17 [(.tmp 33), (.tmp 34), (.tmp 37)]), qm 32 38, qq 39 (.ext 0 (.tmp 32)), qq 40 (.ext 1 (.tmp 32)), qm 9 39, qn (.st 2 (.tmp 10) (.tmp 40))])) (.leaf [qq 10 (.alc 30 [(.int .i64 0), (.int .i64 0)]), qq 33 (.ld (.some 3) (.tmp 3)), qq 38 (.call 17 [(.tmp 33), (.tmp 34), (.tmp 37)]), qm 32 38, qq 39 (.ext 0 (.tmp 32)), qq 40 (.ext 1 (.tmp 32)), qm 9 39, qn (.st 2 (.tmp 10) (.tmp 40))])) (.br [qq 10 (.alc 30 [(.int .i64 0), (.int .i64 0)])] (.leaf [qq 33 (.ld (.some 3) (.tmp 3)), qq 34 (.ld (.some 4) (.tmp 7)), qq 38 (.call 17 [(.tmp 33), (.tmp 34), (.tmp 37)]), qm 32 38, qq 39 (.ext 0 (.tmp 32)), qq 40 (.ext 1 (.tmp 32)), qm 9 39, qn (.st 2 (.tmp 10) (.tmp 40))]) (.leaf [qq 34 (.ld (.some 4) (.tmp 7)), qq 33 (.ld (.some 3) (.tmp 3)), qq 38 (.call 17 [(.tmp 33), (.tmp 34), (.tmp 37)]), qm 32 38, qq 39 (.ext 0 (.tmp 32)), qq 40 (.ext 1 (.tmp 32)), qm 9 39, qn (.st 2 (.tmp 10) (.tmp 40))])))))) (.seq (.reg [qq 42 (.ld (.some 3) (.tmp 3)), qq 43 (.ld (.some 4) (.tmp 7)), qm 44 1, qq 45 (.call 17 [(.tmp 42), (.tmp 43), (.tmp 44)]), qm 41 45, qq 46 (.ext 0 (.tmp 41)), qq 47 (.ext 1 (.tmp 41)), qq 12 (.alc 30 [(.int .i64 0), (.int .i64 0)]), qm 11 46, qn (.st 2 (.tmp 12) (.tmp 47))]) (.seq (.seq (.reg [qq 48 (.fad 0 (.tmp 10)), qq 49 (.ld none (.tmp 48)), qq 50 (.bin .neq (.tmp 49) (ki 0)), qm 51 50, qt 51 52 (.fad 1 (.tmp 10)), qt 51 53 (.ld none (.tmp 52)), qmt 51 54 8, qt 51 55 (.bin .lss (.tmp 53) (.tmp 54)), qq 56 (.pick (.tmp 51) (.tmp 55) (kb false)), qm 57 56, qt 57 58 (.ld (.some 2) (.tmp 10)), qt 57 59 (.ld (.some 2) (.tmp 12)), qt 57 60 (.eqA true [.i, .i] (.tmp 58) (.tmp 59)), qq 61 (.pick (.tmp 57) (.tmp 60) (kb false))]) (.cond (.tmp 61) (.seq (.reg [qq 6 (.mv (kb false))]) .ret) .skip)) (.seq (.reg [qm 62 9, qq 63 (.len (.tmp 62)), qm 13 63]) (.seq (.seq (.reg [qq 64 (.fad 0 (.tmp 10)), qq 65 (.ld none (.tmp 64)), qq 66 (.bin .eql (.tmp 65) (ki 0)), qm 67 66, qmt 67 68 13, qt 67 69 (.bin .gtr (.tmp 68) (ki 0)), qq 70 (.pick (.tmp 67) (.tmp 69) (kb false))]) (.cond (.tmp 70) (.reg [qm 71 13, qq 72 (.bin .sub (.tmp 71) (ki 1)), qm 13 72]) .skip)) (.seq (.seq (.reg [qm 73 13, qm 74 11, qq 75 (.len (.tmp 74)), qq 76 (.bin .gtr (.tmp 73) (.tmp 75))]) (.cond (.tmp 76) (.seq (.reg [qq 6 (.mv (kb false))]) .ret) .skip)) (.seq (.seq (.reg [qm 77 13, qq 78 (.mv (ki 0))]) (.blk 0 (.loop c4l1))) (.seq (.reg [qq 92 (.call 16 []), qm 6 92]) .ret))))))))))))
theorem k4 : conv Try.prog 93 (Try.f4.body.getD .skip) = c4 := by kernel_rfl
theorem in4 {a0 a1 a2 : Value} {w : World} {R : Value → World → Prop} (h : G Try.prog Try.f4 93 [.c c4] R (frL 0 [a0, a1, a2]) w) : Ret Try.prog 4 #[a0, a1, a2] w R := G.enter (args := [a0, a1, a2]) Try.func4 (c := Try.f4.body.getD .skip) (by kernel_rfl) (by kernel_rfl) (by simp) k4 h
def frontT : MC := match c4 with
  | .seq _ (.seq _ (.seq _ (.seq _ (.seq _ (.seq _ (.seq _ (.seq _ (.seq _ (.seq _ (.seq _ t)))))))))) => t
  | _ => .skip
theorem wfront_loop {n N : Nat} {ρ : Fr} {v1 v2 : Value} {vs1 vs2 : List Value} {xs1 xs2 : List (List Str)} {w w0 : World} (q9 : ρ 9 = v1) (q11 : ρ 11 = v2) (q77 : ρ 77 = I N) (q78 : ρ 78 = I 0)
    (hS : Sep w0 w [accC v1 47 eV vs1, frzC eS vs1 xs1, accC v2 47 eV vs2, frzC eS vs2 xs2]) (h1 : N ≤ xs1.length) (h2 : N ≤ xs2.length) (hb : N ≤ 1000000) (he : ∀ i, i < N → xs1.getD i [] = xs2.getD i []) :
    G Try.prog Try.f4 n [.c (.loop c4l1), .b 0, .c frontT] (fun v w' => v = .bool true ∧ Ext w0 w') ρ w := by
  have l1 := hS.frzLen (.t .h)
  have l2 := hS.frzLen (.t (.t (.t .h)))
  refine G.loop (fun r w' => ∃ i : Nat, i ≤ N ∧ r 9 = v1 ∧ r 11 = v2 ∧ r 77 = I N ∧ r 78 = I i ∧ Sep w0 w' [accC v1 47 eV vs1, frzC eS vs1 xs1, accC v2 47 eV vs2, frzC eS vs2 xs2]) (fun r _ => N - toN (r 78)) ?_ ?_
  · exact ⟨0, by omega, q9, q11, q77, q78, hS⟩
  · clear hS q9 q11 q77 q78
    rintro u wl ⟨i, hi, q9, q11, q77, q78, hS⟩ ih
    by_cases hlt : (i : Int) < N
    · have hei := he i (by omega)
      repeat' (first | refine G.seq ?_ | refine G.blk ?_ | refine G.endb ?_ | refine G.skip ?_ | refine G.lab ?_ | refine G.scp ?_ | refine G.ends ?_ | refine G.exit rfl ?_ | refine G.reg fun K hK => ?_ | (with_reducible (refine hK _ _ ?_); clear hK K) | (with_reducible (refine hK _ ?_); clear hK K; intro wd hxd; have hS := Sep.ext (by assumption) hxd) | (have hk := hK; clear hk; simp (disch := (first | exact dis | fail)) only [push_cast, ↓reduceIte, Nat.reduceAdd, Nat.reduceLeDiff, Nat.reduceEqDiff, Nat.reduceLT, Int.reduceToNat, q9, q11, q77, q78, hei]) | ((first | refine brO_mk ?_ ?_ | refine brQ_mk ?_ ?_) <;> intro hb <;> (try simp only [Bool.not_eq_true', Bool.not_eq_false'] at hb) <;> have hc := hb <;> (try simp only [hcs, reduceCtorEq] at hc) <;> (try (exfalso; omega)) <;> simp only [hb] <;> clear hb) | (refine zalc ?_; intro gb wb hS) | (refine zbsl ?_; intro gb wb hS) | ((with_reducible (show SemK _ (Instr.box _ _) _ _ _ _)); refine zbox ?_; intro gb wb hS) | ((with_reducible (show StK _ _ (Value.pointer _) _ _ _ _ _)); refine zst ?_; intro wb hS; (try simp only [sets] at hS)) | (refine zcv ?_) | (refine zcp 24 (same05_spec (Sep.frzAt hS (.t .h) (i := i) (by omega)) (Sep.frzAt hS (.t (.t (.t .h))) (i := i) (by omega))) ?_; intro wb hS) | (refine G.drt mixed fun K hK wd hxd => ?_; have hS := Sep.ext (by assumption) hxd) | with_reducible refine OT_leaf ?_ | (with_reducible refine OT_tail fun K2 hK2 => ?_) | (with_reducible (refine hK2 _ ?_); clear hK2 K2; intro wd hxd; have hS := Sep.ext (by assumption) hxd) | (have hk := hK2; clear hk; simp (disch := (first | exact dis | fail)) only [push_cast, ↓reduceIte, Nat.reduceAdd, Nat.reduceLeDiff, Nat.reduceEqDiff, Nat.reduceLT, Int.reduceToNat, q9, q11, q77, q78, hei]) | with_reducible refine OT_br fun K2 hK2 => ?_ | (refine hK2 _ _ ?_ ?_ <;> clear hK2 K2) | refine G.drg mixed fun K hK => ?_ | (refine G.cond (by simp only [push_cast, ↓reduceIte, Nat.reduceAdd, Nat.reduceLeDiff, Nat.reduceEqDiff, Nat.reduceLT, Int.reduceToNat, q9, q11, q77, q78, hei]; rfl) ?_ ?_ <;> intro hc <;> (try simp only [hcs, reduceCtorEq] at hc) <;> (try (exfalso; omega))))
      all_goals
        refine ih _ _ ⟨i + 1, by omega, by simp only [push_cast, ↓reduceIte, Nat.reduceAdd, Nat.reduceLeDiff, Nat.reduceEqDiff, Nat.reduceLT, Int.reduceToNat, q9, q11, q77, q78], by simp only [push_cast, ↓reduceIte, Nat.reduceAdd, Nat.reduceLeDiff, Nat.reduceEqDiff, Nat.reduceLT, Int.reduceToNat, q9, q11, q77, q78], by simp only [push_cast, ↓reduceIte, Nat.reduceAdd, Nat.reduceLeDiff, Nat.reduceEqDiff, Nat.reduceLT, Int.reduceToNat, q9, q11, q77, q78], by simp only [push_cast, ↓reduceIte, Nat.reduceAdd, Nat.reduceLeDiff, Nat.reduceEqDiff, Nat.reduceLT, Int.reduceToNat, q9, q11, q77, q78] <;> rfl, hS⟩ ?_
        (simp only [push_cast, ↓reduceIte, Nat.reduceAdd, Nat.reduceLeDiff, Nat.reduceEqDiff, Nat.reduceLT, Int.reduceToNat, toN_i, q9, q11, q77, q78] <;> omega)
    · unfold frontT c4
      dsimp only
      repeat' (first | refine G.seq ?_ | refine G.blk ?_ | refine G.endb ?_ | refine G.skip ?_ | refine G.lab ?_ | refine G.scp ?_ | refine G.ends ?_ | refine G.exit rfl ?_ | refine G.reg fun K hK => ?_ | (with_reducible (refine hK _ _ ?_); clear hK K) | (with_reducible (refine hK _ ?_); clear hK K; intro wd hxd; have hS := Sep.ext (by assumption) hxd) | (have hk := hK; clear hk; simp (disch := (first | exact dis | fail)) only [push_cast, ↓reduceIte, Nat.reduceAdd, Nat.reduceLeDiff, Nat.reduceEqDiff, Nat.reduceLT, Int.reduceToNat, q9, q11, q77, q78]) | ((first | refine brO_mk ?_ ?_ | refine brQ_mk ?_ ?_) <;> intro hb <;> (try simp only [Bool.not_eq_true', Bool.not_eq_false'] at hb) <;> have hc := hb <;> (try simp only [hcs, reduceCtorEq] at hc) <;> (try (exfalso; omega)) <;> simp only [hb] <;> clear hb) | (refine zalc ?_; intro gb wb hS) | (refine zbsl ?_; intro gb wb hS) | ((with_reducible (show SemK _ (Instr.box _ _) _ _ _ _)); refine zbox ?_; intro gb wb hS) | ((with_reducible (show StK _ _ (Value.pointer _) _ _ _ _ _)); refine zst ?_; intro wb hS; (try simp only [sets] at hS)) | (refine zcv ?_) | (refine zcp 16 (awake6_spec _) ?_; intro wb hS) | (refine G.drt mixed fun K hK wd hxd => ?_; have hS := Sep.ext (by assumption) hxd) | with_reducible refine OT_leaf ?_ | (with_reducible refine OT_tail fun K2 hK2 => ?_) | (with_reducible (refine hK2 _ ?_); clear hK2 K2; intro wd hxd; have hS := Sep.ext (by assumption) hxd) | (have hk := hK2; clear hk; simp (disch := (first | exact dis | fail)) only [push_cast, ↓reduceIte, Nat.reduceAdd, Nat.reduceLeDiff, Nat.reduceEqDiff, Nat.reduceLT, Int.reduceToNat, q9, q11, q77, q78]) | with_reducible refine OT_br fun K2 hK2 => ?_ | (refine hK2 _ _ ?_ ?_ <;> clear hK2 K2) | refine G.drg mixed fun K hK => ?_ | (refine G.cond (by simp only [push_cast, ↓reduceIte, Nat.reduceAdd, Nat.reduceLeDiff, Nat.reduceEqDiff, Nat.reduceLT, Int.reduceToNat, q9, q11, q77, q78]; rfl) ?_ ?_ <;> intro hc <;> (try simp only [hcs, reduceCtorEq] at hc) <;> (try (exfalso; omega))))
      all_goals
        ((first | apply G.rv1 rfl | apply G.rv2 rfl | apply G.rv3 rfl | apply G.ret0 rfl) <;> (first | exact RV.tmp | exact zag (by simp only [push_cast, ↓reduceIte, Nat.reduceAdd, Nat.reduceLeDiff, Nat.reduceEqDiff, Nat.reduceLT, Int.reduceToNat, q9, q11, q77, q78]; rfl) | skip)); (try simp (disch := (first | exact dis | fail)) only [push_cast, ↓reduceIte, Nat.reduceAdd, Nat.reduceLeDiff, Nat.reduceEqDiff, Nat.reduceLT, Int.reduceToNat, q9, q11, q77, q78])
        (first | exact Sep.xt (by assumption) | exact ⟨rfl, Sep.xt (by assumption)⟩)
set_option maxHeartbeats 1000000 in
theorem law_wfront (d : Dl) (s : Str) (a : Int) (w : World) (hd : byD d) (hs : s.length ≤ 9223372036854775807) (ha : 0 ≤ a ∧ a ≤ 65535) : Pu Try.prog 4 #[(.agg #[U d.dl, U d.q, I d.e]), S s, .int .u16 a] w (.bool true) := by
  refine in4 ?_
  have hS := Sep.start w
  by_cases hlen : (s.length : Int) ≤ 300
  · cases hr : rightD d
    · repeat' (first | refine G.seq ?_ | refine G.blk ?_ | refine G.endb ?_ | refine G.skip ?_ | refine G.lab ?_ | refine G.scp ?_ | refine G.ends ?_ | refine G.exit rfl ?_ | refine G.reg fun K hK => ?_ | (with_reducible (refine hK _ _ ?_); clear hK K) | (with_reducible (refine hK _ ?_); clear hK K; intro wd hxd; have hS := Sep.ext (by assumption) hxd) | (have hk := hK; clear hk; simp (disch := (first | exact dis | fail)) only [push_cast, ↓reduceIte, Nat.reduceAdd, Nat.reduceLeDiff, Nat.reduceEqDiff, Nat.reduceLT, Int.reduceToNat, hr]) | ((first | refine brO_mk ?_ ?_ | refine brQ_mk ?_ ?_) <;> intro hb <;> (try simp only [Bool.not_eq_true', Bool.not_eq_false'] at hb) <;> have hc := hb <;> (try simp only [hcs, reduceCtorEq] at hc) <;> (try (exfalso; omega)) <;> simp only [hb] <;> clear hb) | (refine zalc ?_; intro gb wb hS) | (refine zbsl ?_; intro gb wb hS) | ((with_reducible (show SemK _ (Instr.box _ _) _ _ _ _)); refine zbox ?_; intro gb wb hS) | ((with_reducible (show StK _ _ (Value.pointer _) _ _ _ _ _)); refine zst ?_; intro wb hS; (try simp only [sets] at hS)) | (refine zcv ?_) | (refine zcp 16 (awake6_spec _) ?_; intro wb hS) | (refine zcp 19 (refD_spec d hd _) ?_; intro wb hS) | (refine zcp 18 (rightR_spec d hd _) ?_; intro wb hS) | (refine G.drt mixed fun K hK wd hxd => ?_; have hS := Sep.ext (by assumption) hxd) | with_reducible refine OT_leaf ?_ | (with_reducible refine OT_tail fun K2 hK2 => ?_) | (with_reducible (refine hK2 _ ?_); clear hK2 K2; intro wd hxd; have hS := Sep.ext (by assumption) hxd) | (have hk := hK2; clear hk; simp (disch := (first | exact dis | fail)) only [push_cast, ↓reduceIte, Nat.reduceAdd, Nat.reduceLeDiff, Nat.reduceEqDiff, Nat.reduceLT, Int.reduceToNat, hr]) | with_reducible refine OT_br fun K2 hK2 => ?_ | (refine hK2 _ _ ?_ ?_ <;> clear hK2 K2) | refine G.drg mixed fun K hK => ?_ | (refine G.cond (by simp only [push_cast, ↓reduceIte, Nat.reduceAdd, Nat.reduceLeDiff, Nat.reduceEqDiff, Nat.reduceLT, Int.reduceToNat, hr]; rfl) ?_ ?_ <;> intro hc <;> (try simp only [hcs, reduceCtorEq] at hc) <;> (try (exfalso; omega))))
      all_goals
        ((first | apply G.rv1 rfl | apply G.rv2 rfl | apply G.rv3 rfl | apply G.ret0 rfl) <;> (first | exact RV.tmp | exact zag (by simp only [push_cast, ↓reduceIte, Nat.reduceAdd, Nat.reduceLeDiff, Nat.reduceEqDiff, Nat.reduceLT, Int.reduceToNat]; rfl) | skip)); (try simp (disch := (first | exact dis | fail)) only [push_cast, ↓reduceIte, Nat.reduceAdd, Nat.reduceLeDiff, Nat.reduceEqDiff, Nat.reduceLT, Int.reduceToNat])
        exact Sep.xt (by assumption)
    · have he0 := Int.emod_nonneg a (show ((s.length : Int) + 1) ≠ 0 by omega)
      have he1 := Int.emod_lt_of_pos a (show (0 : Int) < (s.length : Int) + 1 by omega)
      obtain ⟨k, hk⟩ : ∃ k : Nat, (k : Int) = a % ((s.length : Int) + 1) := ⟨(a % ((s.length : Int) + 1)).toNat, by omega⟩
      have hkl : k ≤ s.length := by omega
      have hk' := hk.symm
      clear he0 he1
      obtain ⟨f1, f2, f3⟩ := front d hr s k hkl
      have hp := fun w => parse_spec2 d wideL s w (by omega) (walk_wide hr s)
      have hq := fun w => parse_spec2 d wideL (s.take k) w (by simp; omega) (walk_wide hr (s.take k))
      have hAl : (parM d wideL (s.take k)).rs.length ≤ 1000 := Nat.le_trans (par_len _ _ _) (by simp; omega)
      have hBl : (parM d wideL s).rs.length ≤ 1000 := Nat.le_trans (par_len _ _ _) (by omega)
      generalize parM d wideL (s.take k) = A at *
      generalize parM d wideL s = B at *
      simp only [wideL] at hp hq
      by_cases hk0 : A.k = 0
      · have hnF : nFront A = A.rs.length - 1 := by
          obtain ⟨rs, kk, aa⟩ := A
          simp only at hk0
          subst hk0
          exact nF_ok _ _
        repeat' (first | refine G.seq ?_ | refine G.blk ?_ | refine G.endb ?_ | refine G.skip ?_ | refine G.lab ?_ | refine G.scp ?_ | refine G.ends ?_ | refine G.exit rfl ?_ | refine G.reg fun K hK => ?_ | (with_reducible (refine hK _ _ ?_); clear hK K) | (with_reducible (refine hK _ ?_); clear hK K; intro wd hxd; have hS := Sep.ext (by assumption) hxd) | (have hk := hK; clear hk; simp (disch := (first | exact dis | fail)) only [push_cast, ↓reduceIte, Nat.reduceAdd, Nat.reduceLeDiff, Nat.reduceEqDiff, Nat.reduceLT, Int.reduceToNat, hr, hk']) | ((first | refine brO_mk ?_ ?_ | refine brQ_mk ?_ ?_) <;> intro hb <;> (try simp only [Bool.not_eq_true', Bool.not_eq_false'] at hb) <;> have hc := hb <;> (try simp only [hcs, reduceCtorEq] at hc) <;> (try (exfalso; omega)) <;> simp only [hb] <;> clear hb) | (refine zalc ?_; intro gb wb hS) | (refine zbsl ?_; intro gb wb hS) | ((with_reducible (show SemK _ (Instr.box _ _) _ _ _ _)); refine zbox ?_; intro gb wb hS) | ((with_reducible (show StK _ _ (Value.pointer _) _ _ _ _ _)); refine zst ?_; intro wb hS; (try simp only [sets] at hS)) | (refine zcv ?_) | (refine zcp 16 (awake6_spec _) ?_; intro wb hS) | (refine zcp 19 (refD_spec d hd _) ?_; intro wb hS) | (refine zcp 18 (rightR_spec d hd _) ?_; intro wb hS) | ((with_reducible (show CallK _ 17 [_, _, S s] _ _ _ _)); refine zco 17 (hp _) ?_; rintro vb wb ⟨v2, vs2, rfl, hl2, hS2⟩; have hS := hS2.ap; simp only [apps] at hS) | ((with_reducible (show CallK _ 17 _ _ _ _ _)); refine zco 17 (hq _) ?_; rintro vb wb ⟨v1, vs1, rfl, hl1, hS2⟩; have hS := hS2.ap; simp only [apps] at hS) | (refine G.drt mixed fun K hK wd hxd => ?_; have hS := Sep.ext (by assumption) hxd) | with_reducible refine OT_leaf ?_ | (with_reducible refine OT_tail fun K2 hK2 => ?_) | (with_reducible (refine hK2 _ ?_); clear hK2 K2; intro wd hxd; have hS := Sep.ext (by assumption) hxd) | (have hk := hK2; clear hk; simp (disch := (first | exact dis | fail)) only [push_cast, ↓reduceIte, Nat.reduceAdd, Nat.reduceLeDiff, Nat.reduceEqDiff, Nat.reduceLT, Int.reduceToNat, hr, hk']) | with_reducible refine OT_br fun K2 hK2 => ?_ | (refine hK2 _ _ ?_ ?_ <;> clear hK2 K2) | refine G.drg mixed fun K hK => ?_ | (refine G.cond (by simp only [push_cast, ↓reduceIte, Nat.reduceAdd, Nat.reduceLeDiff, Nat.reduceEqDiff, Nat.reduceLT, Int.reduceToNat, hr, hk']; rfl) ?_ ?_ <;> intro hc <;> (try simp only [hcs, reduceCtorEq] at hc) <;> (try (exfalso; omega))))
        all_goals
          (exact wfront_loop (N := nFront A) (v1 := v1) (v2 := v2) (vs1 := vs1) (vs2 := vs2) (xs1 := A.rs.map Prod.fst) (xs2 := B.rs.map Prod.fst) (by simp only [push_cast, ↓reduceIte, Nat.reduceAdd, Nat.reduceLeDiff, Nat.reduceEqDiff, Nat.reduceLT, Int.reduceToNat]) (by simp only [push_cast, ↓reduceIte, Nat.reduceAdd, Nat.reduceLeDiff, Nat.reduceEqDiff, Nat.reduceLT, Int.reduceToNat]) (by simp only [push_cast, ↓reduceIte, Nat.reduceAdd, Nat.reduceLeDiff, Nat.reduceEqDiff, Nat.reduceLT, Int.reduceToNat] <;> (congr 1; omega)) (by simp only [push_cast, ↓reduceIte, Nat.reduceAdd, Nat.reduceLeDiff, Nat.reduceEqDiff, Nat.reduceLT, Int.reduceToNat]) (Sep.sub hS (by repeat first | exact Sub.rfl' | exact Sub.nil0 | (refine Sub.c (by repeat constructor) ?_) | refine Sub.skip ?_)) (by rw [List.length_map]; omega) (by rw [List.length_map]; omega) (by omega) f3)
      · have hnF : nFront A = A.rs.length := nF_err _ _ _ hk0
        by_cases hak : (A.a : Int) < k
        · obtain ⟨g1, g2⟩ := f1 hk0 (by omega)
          repeat' (first | refine G.seq ?_ | refine G.blk ?_ | refine G.endb ?_ | refine G.skip ?_ | refine G.lab ?_ | refine G.scp ?_ | refine G.ends ?_ | refine G.exit rfl ?_ | refine G.reg fun K hK => ?_ | (with_reducible (refine hK _ _ ?_); clear hK K) | (with_reducible (refine hK _ ?_); clear hK K; intro wd hxd; have hS := Sep.ext (by assumption) hxd) | (have hk := hK; clear hk; simp (disch := (first | exact dis | fail)) only [push_cast, ↓reduceIte, Nat.reduceAdd, Nat.reduceLeDiff, Nat.reduceEqDiff, Nat.reduceLT, Int.reduceToNat, hr, hk']) | ((first | refine brO_mk ?_ ?_ | refine brQ_mk ?_ ?_) <;> intro hb <;> (try simp only [Bool.not_eq_true', Bool.not_eq_false'] at hb) <;> have hc := hb <;> (try simp only [hcs, reduceCtorEq] at hc) <;> (try (exfalso; omega)) <;> simp only [hb] <;> clear hb) | (refine zalc ?_; intro gb wb hS) | (refine zbsl ?_; intro gb wb hS) | ((with_reducible (show SemK _ (Instr.box _ _) _ _ _ _)); refine zbox ?_; intro gb wb hS) | ((with_reducible (show StK _ _ (Value.pointer _) _ _ _ _ _)); refine zst ?_; intro wb hS; (try simp only [sets] at hS)) | (refine zcv ?_) | (refine zcp 16 (awake6_spec _) ?_; intro wb hS) | (refine zcp 19 (refD_spec d hd _) ?_; intro wb hS) | (refine zcp 18 (rightR_spec d hd _) ?_; intro wb hS) | ((with_reducible (show CallK _ 17 [_, _, S s] _ _ _ _)); refine zco 17 (hp _) ?_; rintro vb wb ⟨v2, vs2, rfl, hl2, hS2⟩; have hS := hS2.ap; simp only [apps] at hS) | ((with_reducible (show CallK _ 17 _ _ _ _ _)); refine zco 17 (hq _) ?_; rintro vb wb ⟨v1, vs1, rfl, hl1, hS2⟩; have hS := hS2.ap; simp only [apps] at hS) | (refine G.drt mixed fun K hK wd hxd => ?_; have hS := Sep.ext (by assumption) hxd) | with_reducible refine OT_leaf ?_ | (with_reducible refine OT_tail fun K2 hK2 => ?_) | (with_reducible (refine hK2 _ ?_); clear hK2 K2; intro wd hxd; have hS := Sep.ext (by assumption) hxd) | (have hk := hK2; clear hk; simp (disch := (first | exact dis | fail)) only [push_cast, ↓reduceIte, Nat.reduceAdd, Nat.reduceLeDiff, Nat.reduceEqDiff, Nat.reduceLT, Int.reduceToNat, hr, hk']) | with_reducible refine OT_br fun K2 hK2 => ?_ | (refine hK2 _ _ ?_ ?_ <;> clear hK2 K2) | refine G.drg mixed fun K hK => ?_ | (refine G.cond (by simp only [push_cast, ↓reduceIte, Nat.reduceAdd, Nat.reduceLeDiff, Nat.reduceEqDiff, Nat.reduceLT, Int.reduceToNat, hr, hk']; rfl) ?_ ?_ <;> intro hc <;> (try simp only [hcs, reduceCtorEq] at hc) <;> (try (exfalso; omega))))
          all_goals
            (exact wfront_loop (N := nFront A) (v1 := v1) (v2 := v2) (vs1 := vs1) (vs2 := vs2) (xs1 := A.rs.map Prod.fst) (xs2 := B.rs.map Prod.fst) (by simp only [push_cast, ↓reduceIte, Nat.reduceAdd, Nat.reduceLeDiff, Nat.reduceEqDiff, Nat.reduceLT, Int.reduceToNat]) (by simp only [push_cast, ↓reduceIte, Nat.reduceAdd, Nat.reduceLeDiff, Nat.reduceEqDiff, Nat.reduceLT, Int.reduceToNat]) (by simp only [push_cast, ↓reduceIte, Nat.reduceAdd, Nat.reduceLeDiff, Nat.reduceEqDiff, Nat.reduceLT, Int.reduceToNat] <;> (congr 1; omega)) (by simp only [push_cast, ↓reduceIte, Nat.reduceAdd, Nat.reduceLeDiff, Nat.reduceEqDiff, Nat.reduceLT, Int.reduceToNat]) (Sep.sub hS (by repeat first | exact Sub.rfl' | exact Sub.nil0 | (refine Sub.c (by repeat constructor) ?_) | refine Sub.skip ?_)) (by rw [List.length_map]; omega) (by rw [List.length_map]; omega) (by omega) f3)
        · repeat' (first | refine G.seq ?_ | refine G.blk ?_ | refine G.endb ?_ | refine G.skip ?_ | refine G.lab ?_ | refine G.scp ?_ | refine G.ends ?_ | refine G.exit rfl ?_ | refine G.reg fun K hK => ?_ | (with_reducible (refine hK _ _ ?_); clear hK K) | (with_reducible (refine hK _ ?_); clear hK K; intro wd hxd; have hS := Sep.ext (by assumption) hxd) | (have hk := hK; clear hk; simp (disch := (first | exact dis | fail)) only [push_cast, ↓reduceIte, Nat.reduceAdd, Nat.reduceLeDiff, Nat.reduceEqDiff, Nat.reduceLT, Int.reduceToNat, hr, hk']) | ((first | refine brO_mk ?_ ?_ | refine brQ_mk ?_ ?_) <;> intro hb <;> (try simp only [Bool.not_eq_true', Bool.not_eq_false'] at hb) <;> have hc := hb <;> (try simp only [hcs, reduceCtorEq] at hc) <;> (try (exfalso; omega)) <;> simp only [hb] <;> clear hb) | (refine zalc ?_; intro gb wb hS) | (refine zbsl ?_; intro gb wb hS) | ((with_reducible (show SemK _ (Instr.box _ _) _ _ _ _)); refine zbox ?_; intro gb wb hS) | ((with_reducible (show StK _ _ (Value.pointer _) _ _ _ _ _)); refine zst ?_; intro wb hS; (try simp only [sets] at hS)) | (refine zcv ?_) | (refine zcp 16 (awake6_spec _) ?_; intro wb hS) | (refine zcp 19 (refD_spec d hd _) ?_; intro wb hS) | (refine zcp 18 (rightR_spec d hd _) ?_; intro wb hS) | ((with_reducible (show CallK _ 17 [_, _, S s] _ _ _ _)); refine zco 17 (hp _) ?_; rintro vb wb ⟨v2, vs2, rfl, hl2, hS2⟩; have hS := hS2.ap; simp only [apps] at hS) | ((with_reducible (show CallK _ 17 _ _ _ _ _)); refine zco 17 (hq _) ?_; rintro vb wb ⟨v1, vs1, rfl, hl1, hS2⟩; have hS := hS2.ap; simp only [apps] at hS) | (refine G.drt mixed fun K hK wd hxd => ?_; have hS := Sep.ext (by assumption) hxd) | with_reducible refine OT_leaf ?_ | (with_reducible refine OT_tail fun K2 hK2 => ?_) | (with_reducible (refine hK2 _ ?_); clear hK2 K2; intro wd hxd; have hS := Sep.ext (by assumption) hxd) | (have hk := hK2; clear hk; simp (disch := (first | exact dis | fail)) only [push_cast, ↓reduceIte, Nat.reduceAdd, Nat.reduceLeDiff, Nat.reduceEqDiff, Nat.reduceLT, Int.reduceToNat, hr, hk']) | with_reducible refine OT_br fun K2 hK2 => ?_ | (refine hK2 _ _ ?_ ?_ <;> clear hK2 K2) | refine G.drg mixed fun K hK => ?_ | (refine G.cond (by simp only [push_cast, ↓reduceIte, Nat.reduceAdd, Nat.reduceLeDiff, Nat.reduceEqDiff, Nat.reduceLT, Int.reduceToNat, hr, hk']; rfl) ?_ ?_ <;> intro hc <;> (try simp only [hcs, reduceCtorEq] at hc) <;> (try (exfalso; omega))))
          all_goals
            (exact wfront_loop (N := nFront A) (v1 := v1) (v2 := v2) (vs1 := vs1) (vs2 := vs2) (xs1 := A.rs.map Prod.fst) (xs2 := B.rs.map Prod.fst) (by simp only [push_cast, ↓reduceIte, Nat.reduceAdd, Nat.reduceLeDiff, Nat.reduceEqDiff, Nat.reduceLT, Int.reduceToNat]) (by simp only [push_cast, ↓reduceIte, Nat.reduceAdd, Nat.reduceLeDiff, Nat.reduceEqDiff, Nat.reduceLT, Int.reduceToNat]) (by simp only [push_cast, ↓reduceIte, Nat.reduceAdd, Nat.reduceLeDiff, Nat.reduceEqDiff, Nat.reduceLT, Int.reduceToNat] <;> (congr 1; omega)) (by simp only [push_cast, ↓reduceIte, Nat.reduceAdd, Nat.reduceLeDiff, Nat.reduceEqDiff, Nat.reduceLT, Int.reduceToNat]) (Sep.sub hS (by repeat first | exact Sub.rfl' | exact Sub.nil0 | (refine Sub.c (by repeat constructor) ?_) | refine Sub.skip ?_)) (by rw [List.length_map]; omega) (by rw [List.length_map]; omega) (by omega) f3)
  · repeat' (first | refine G.seq ?_ | refine G.blk ?_ | refine G.endb ?_ | refine G.skip ?_ | refine G.lab ?_ | refine G.scp ?_ | refine G.ends ?_ | refine G.exit rfl ?_ | refine G.reg fun K hK => ?_ | (with_reducible (refine hK _ _ ?_); clear hK K) | (with_reducible (refine hK _ ?_); clear hK K; intro wd hxd; have hS := Sep.ext (by assumption) hxd) | (have hk := hK; clear hk; simp (disch := (first | exact dis | fail)) only [push_cast, ↓reduceIte, Nat.reduceAdd, Nat.reduceLeDiff, Nat.reduceEqDiff, Nat.reduceLT, Int.reduceToNat]) | ((first | refine brO_mk ?_ ?_ | refine brQ_mk ?_ ?_) <;> intro hb <;> (try simp only [Bool.not_eq_true', Bool.not_eq_false'] at hb) <;> have hc := hb <;> (try simp only [hcs, reduceCtorEq] at hc) <;> (try (exfalso; omega)) <;> simp only [hb] <;> clear hb) | (refine zalc ?_; intro gb wb hS) | (refine zbsl ?_; intro gb wb hS) | ((with_reducible (show SemK _ (Instr.box _ _) _ _ _ _)); refine zbox ?_; intro gb wb hS) | ((with_reducible (show StK _ _ (Value.pointer _) _ _ _ _ _)); refine zst ?_; intro wb hS; (try simp only [sets] at hS)) | (refine zcv ?_) | (refine zcp 16 (awake6_spec _) ?_; intro wb hS) | (refine G.drt mixed fun K hK wd hxd => ?_; have hS := Sep.ext (by assumption) hxd) | with_reducible refine OT_leaf ?_ | (with_reducible refine OT_tail fun K2 hK2 => ?_) | (with_reducible (refine hK2 _ ?_); clear hK2 K2; intro wd hxd; have hS := Sep.ext (by assumption) hxd) | (have hk := hK2; clear hk; simp (disch := (first | exact dis | fail)) only [push_cast, ↓reduceIte, Nat.reduceAdd, Nat.reduceLeDiff, Nat.reduceEqDiff, Nat.reduceLT, Int.reduceToNat]) | with_reducible refine OT_br fun K2 hK2 => ?_ | (refine hK2 _ _ ?_ ?_ <;> clear hK2 K2) | refine G.drg mixed fun K hK => ?_ | (refine G.cond (by simp only [push_cast, ↓reduceIte, Nat.reduceAdd, Nat.reduceLeDiff, Nat.reduceEqDiff, Nat.reduceLT, Int.reduceToNat]; rfl) ?_ ?_ <;> intro hc <;> (try simp only [hcs, reduceCtorEq] at hc) <;> (try (exfalso; omega))))
    all_goals
      ((first | apply G.rv1 rfl | apply G.rv2 rfl | apply G.rv3 rfl | apply G.ret0 rfl) <;> (first | exact RV.tmp | exact zag (by simp only [push_cast, ↓reduceIte, Nat.reduceAdd, Nat.reduceLeDiff, Nat.reduceEqDiff, Nat.reduceLT, Int.reduceToNat]; rfl) | skip)); (try simp (disch := (first | exact dis | fail)) only [push_cast, ↓reduceIte, Nat.reduceAdd, Nat.reduceLeDiff, Nat.reduceEqDiff, Nat.reduceLT, Int.reduceToNat])
      exact Sep.xt (by assumption)
end Go.Proofs.Ytdhieolfdlkeaaa
