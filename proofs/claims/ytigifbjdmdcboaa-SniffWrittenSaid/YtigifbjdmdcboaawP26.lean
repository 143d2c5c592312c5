/- Texts of the proof, joined. -/
import Derived.Test.YtigifbjdmdcboaawSw
import Derived.Test.YtigifbjdmdcboaawA06
namespace Go.Proofs.Ytigifbjdmdcboaa
set_option linter.unusedSimpArgs false
set_option linter.unusedVariables false
open Go.RowKit
instance : EncSz eDl 3 := ⟨rfl⟩
theorem eDl_f (d : Dl) : eDl.f d = [U d.dl, U d.q, I d.e] := rfl
theorem eG_f (g : Gs) : eG.f g = [U g.d.dl, U g.d.q, I g.d.e, I g.sc] := rfl
def eDr : Enc Dl := ⟨3, fun d => [I d.dl, I d.q, I d.e], fun _ => rfl⟩
instance : EncSz eDr 3 := ⟨rfl⟩
theorem eDr_f (d : Dl) : eDr.f d = [I d.dl, I d.q, I d.e] := rfl
instance : Inhabited Dl := ⟨⟨0, 0, 0⟩⟩
def eB8 : Enc Int := ⟨1, fun n => [U n], fun _ => rfl⟩
instance : EncSz eB8 1 := ⟨rfl⟩
theorem eB8_f (n : Int) : eB8.f n = [U n] := rfl
theorem rd_of {α : Type} (E : Enc α) {w : World} {g n : Nat} {t : TypeId} (ys : List α) (h : Blk w g t (ys.flatMap E.f).toArray) (hn : n = ys.length) (hm : ys.length ≤ 1000000) (h1 : ∀ u ∈ ys.flatMap E.f, One u) : Rd w E (.slice (some ⟨g, 0, none⟩) n n) ys :=
  blk_rd h hn (Nat.le_refl _) (by omega) h1
def dlsL : List Int := [44, 59, 9, 124]
def qsL : List Int := [34, 39]
def esL : List Int := [1, 2, 3]
def triedL : List Dl := dlsL.flatMap fun a => qsL.flatMap fun b => esL.map fun c => ⟨a, b, c⟩
theorem tried_len : triedL.length = 24 := by decide
theorem tried_step {k j i : Nat} (hk : k < 4) (hj : j < 2) (hi : i < 3) : triedL.take (6 * k + 3 * j + i) ++ [⟨dlsL.getD k default, qsL.getD j default, esL.getD i default⟩] = triedL.take (6 * k + 3 * j + (i + 1)) := by
  have : ∀ k < 4, ∀ j < 2, ∀ i < 3, triedL.take (6 * k + 3 * j + i) ++ [⟨dlsL.getD k default, qsL.getD j default, esL.getD i default⟩] = triedL.take (6 * k + 3 * j + (i + 1)) := by
    intro k hk j hj i hi
    match k, hk, j, hj, i, hi with
    | 0, _, 0, _, 0, _ => rfl
    | 0, _, 0, _, 1, _ => rfl
    | 0, _, 0, _, 2, _ => rfl
    | 0, _, 1, _, 0, _ => rfl
    | 0, _, 1, _, 1, _ => rfl
    | 0, _, 1, _, 2, _ => rfl
    | 1, _, 0, _, 0, _ => rfl
    | 1, _, 0, _, 1, _ => rfl
    | 1, _, 0, _, 2, _ => rfl
    | 1, _, 1, _, 0, _ => rfl
    | 1, _, 1, _, 1, _ => rfl
    | 1, _, 1, _, 2, _ => rfl
    | 2, _, 0, _, 0, _ => rfl
    | 2, _, 0, _, 1, _ => rfl
    | 2, _, 0, _, 2, _ => rfl
    | 2, _, 1, _, 0, _ => rfl
    | 2, _, 1, _, 1, _ => rfl
    | 2, _, 1, _, 2, _ => rfl
    | 3, _, 0, _, 0, _ => rfl
    | 3, _, 0, _, 1, _ => rfl
    | 3, _, 0, _, 2, _ => rfl
    | 3, _, 1, _, 0, _ => rfl
    | 3, _, 1, _, 1, _ => rfl
    | 3, _, 1, _, 2, _ => rfl
  exact this k hk j hj i hi
theorem tried_ix : ∀ k, k < 24 → ixD (triedL.getD k default) = k := by decide
theorem tried_right : ∀ d ∈ triedL, rightD d = true ∧ byD d := by
  intro d hd
  have h : ∀ d ∈ triedL, rightD d = true := by decide
  have h2 : ∀ d ∈ triedL, (0 ≤ d.dl ∧ d.dl ≤ 255 ∧ 0 ≤ d.q ∧ d.q ≤ 255) := by decide
  exact ⟨h d hd, h2 d hd⟩
def alkF (w : Nat) : List (List Str) → Nat
  | [] => 0
  | r :: t => if r.length = w then alkF w t + 1 else 0
theorem alk_le (w : Nat) : ∀ t, alkF w t ≤ t.length
  | [] => Nat.le_refl _
  | r :: t => by have := alk_le w t; unfold alkF; split <;> simp; omega
theorem alk_at {w : Nat} {t : List (List Str)} {k : Nat} (hk : k < t.length) (h : (t.getD k []).length = w) : alkF w (t.drop k) = alkF w (t.drop (k + 1)) + 1 := by
  rw [List.drop_eq_getElem_cons hk]
  have e : (t[k]).length = w := by rw [← h, List.getD_eq_getElem?_getD, List.getElem?_eq_getElem hk]; rfl
  rw [alkF, if_pos e]
theorem alk_no {w : Nat} {t : List (List Str)} {k : Nat} (hk : k < t.length) (h : ¬ (t.getD k []).length = w) : alkF w (t.drop k) = 0 := by
  rw [List.drop_eq_getElem_cons hk]
  have e : ¬ (t[k]).length = w := by intro e; apply h; rw [← e, List.getD_eq_getElem?_getD, List.getElem?_eq_getElem hk]; rfl
  rw [alkF, if_neg e]
theorem alk_end {w : Nat} {t : List (List Str)} {k : Nat} (hk : t.length ≤ k) : alkF w (t.drop k) = 0 := by rw [List.drop_eq_nil_of_le hk]; rfl
def scoreT (t : List (List Str)) (k : Int) : Int :=
  if t.length = 0 ∨ (t.getD 0 []).length < 2 then 0
  else min (alkF (t.getD 0 []).length t : Int) 999 + if k = 0 ∧ 2 ≤ t.length ∧ alkF (t.getD 0 []).length t = t.length then 1000000 + 1000 * ((t.getD 0 []).length : Int) else 0
def scoreM (d : Dl) (s : Str) : Int := scoreT ((parM d wideL s).rs.map Prod.fst) (parM d wideL s).k
def WdOK (t : List (List Str)) (k : Int) : Prop := k = 0 → ((t.getD 0 []).length : Int) ≤ 2147483648
theorem par_wd {d : Dl} (hr : rightD d = true) (s : Str) : WdOK ((parM d wideL s).rs.map Prod.fst) (parM d wideL s).k := fun hk => by
  obtain ⟨h, _⟩ := par_ok hr fits_wide6 s hk
  by_cases h0 : 0 < ((parM d wideL s).rs.map Prod.fst).length
  · exact (h 0 h0).2.1
  · have : (parM d wideL s).rs.map Prod.fst = [] := List.eq_nil_of_length_eq_zero (by omega)
    rw [this]; simp
theorem score_bd {t : List (List Str)} {k : Int} (h : WdOK t k) : 0 ≤ scoreT t k ∧ scoreT t k ≤ 2147485000000 := by
  unfold scoreT
  split
  · omega
  · have := alk_le (t.getD 0 []).length t
    split
    · rename_i h2; have := h h2.1; omega
    · omega
def gsL (s : Str) : List Gs := triedL.map fun d => ⟨d, scoreM d s⟩
theorem gs_len (s : Str) : (gsL s).length = 24 := by unfold gsL; rw [List.length_map]; exact tried_len
theorem gs_at (s : Str) (k : Nat) (hk : k < 24) : (gsL s).getD k default = ⟨triedL.getD k default, scoreM (triedL.getD k default) s⟩ := by
  have := tried_len
  unfold gsL
  rw [List.getD_eq_getElem?_getD, List.getElem?_map, List.getD_eq_getElem?_getD, List.getElem?_eq_getElem (by omega)]; rfl
theorem tried_mem (k : Nat) (hk : k < 24) : triedL.getD k default ∈ triedL := getD_mem _ _ (by have := tried_len; omega)
theorem score_d (s : Str) {d : Dl} (hd : d ∈ triedL) : 0 ≤ scoreM d s ∧ scoreM d s ≤ 2147485000000 := score_bd (par_wd (tried_right d hd).1 s)
theorem gs_bd (s : Str) : BdG (gsL s) := .of (by rw [gs_len]; decide) fun g hg => by
  obtain ⟨d, hd, rfl⟩ := List.mem_map.1 hg
  have := score_d s hd
  exact ⟨this.1, by show scoreM d s ≤ _; omega⟩
theorem gs_ix (s : Str) : ∀ i j, i < j → j < 24 → gix ((gsL s).getD i default) < gix ((gsL s).getD j default) := fun i j h1 h2 => by
  rw [gs_at s i (by omega), gs_at s j h2]
  show ixD _ < ixD _
  rw [tried_ix i (by omega), tried_ix j h2]; exact h1
def IsBest (s : Str) (g : Gs) : Prop := g ∈ gsL s ∧ ∀ h ∈ gsL s, h = g ∨ Bef gsc gix g h
theorem best_of {s : Str} {ys : List Gs} (h : MgPost gsc gix 0 24 (gsL s) ys) : IsBest s (ys.getD 0 default) := by
  have hl := h.kept.len
  rw [gs_len] at hl
  refine ⟨h.kept.perm.mem_iff.1 (getD_mem _ _ (by omega)), fun x hx => ?_⟩
  obtain ⟨j, hj, e⟩ := List.getElem_of_mem (h.kept.perm.mem_iff.2 hx)
  have e2 : ys.getD j default = x := by rw [List.getD_eq_getElem?_getD, List.getElem?_eq_getElem hj]; exact e
  rcases Nat.eq_zero_or_pos j with h0 | h0
  · subst h0; exact .inl e2.symm
  · exact .inr (by rw [← e2]; exact h.ord 0 j (Nat.le_refl _) h0 (by omega))
theorem best_one {s : Str} {g h : Gs} (hg : IsBest s g) (hh : IsBest s h) : g = h := by
  rcases hg.2 h hh.1 with e | e
  · exact e.symm
  · rcases hh.2 g hg.1 with e2 | e2
    · exact e2
    · exfalso; unfold Bef at e e2; omega
def RB (s : Str) (k at' : Nat) (most : Int) : Prop := (most = 0 ∧ at' = 0 ∧ ∀ j, j < k → scoreM (triedL.getD j default) s = 0) ∨
  (at' < k ∧ most = scoreM (triedL.getD at' default) s ∧ 0 < most ∧ ∀ j, j < k → scoreM (triedL.getD j default) s ≤ most ∧ (scoreM (triedL.getD j default) s = most → at' ≤ j))
theorem RB.zero (s : Str) : RB s 0 0 0 := .inl ⟨rfl, rfl, fun j h => by omega⟩
theorem RB.on {s : Str} {k at' : Nat} {most : Int} (h : RB s k at' most) (hk : k < 24) (hg : ¬ most < scoreM (triedL.getD k default) s) : RB s (k + 1) at' most := by
  have h0 := score_d s (tried_mem k hk)
  rcases h with ⟨h1, h2, h3⟩ | ⟨h1, h2, h3, h4⟩
  · refine .inl ⟨h1, h2, fun j hj => ?_⟩
    rcases Nat.lt_or_ge j k with h' | h'
    · exact h3 j h'
    · have : j = k := by omega
      subst this; omega
  · refine .inr ⟨by omega, h2, h3, fun j hj => ?_⟩
    rcases Nat.lt_or_ge j k with h' | h'
    · exact h4 j h'
    · have : j = k := by omega
      subst this; omega
end Go.Proofs.Ytigifbjdmdcboaa
namespace Go.Proofs.Ytigifbjdmdcboaa
set_option linter.unusedSimpArgs false
set_option linter.unusedVariables false
attribute [local irreducible] SemK UnitK StK AlcK BslK CallK CallV Instr.box Builtin.append_ Instr.makeSlice Instr.makeMap Instr.lookup Instr.mapUpdate Instr.sliceAt convert
open Go.RowKit
def c31 : MC := (.seq (.reg [qq 0 (.alc 45 [(.int .i64 0), (.int .i64 0), (.int .i64 0), (.bool false)])]) (.seq (.reg [qq 1 (.bld [(.int .i64 0), (.int .i64 0), (.int .i64 0), (.bool false)] [⟨0, ⟨1, (ki 2147483648)⟩⟩, ⟨1, ⟨1, (ki 2147483648)⟩⟩, ⟨2, ⟨1, (ki 2147483648)⟩⟩]), qn (.st 4 (.tmp 0) (.tmp 1))]) .ret))
theorem k31 : conv Try.prog 2 (Try.f31.body.getD .skip) = c31 := by kernel_rfl
theorem in31 {w : World} {R : Value → World → Prop} (h : G Try.prog Try.f31 2 [.c c31] R (frL 0 []) w) : Ret Try.prog 31 #[] w R := G.enter (args := []) Try.func31 (c := Try.f31.body.getD .skip) (by kernel_rfl) (by kernel_rfl) (by simp) k31 h
theorem wide26_spec (w : World) : Pu Try.prog 31 #[] w (.agg #[I 2147483648, I 2147483648, I 2147483648, .bool false]) := by
  refine in31 ?_
  have hS := Sep.start w
  repeat' (first | ((with_reducible apply G.a); exact rfl) | refine G.reg fun K hK => ?_ | (with_reducible (refine hK _ _ ?_); clear hK K) | (have hk := hK; clear hk; simp (disch := first | exact dis | fail) only [push_cast, ↓reduceIte, Nat.reduceAdd, Nat.reduceLeDiff, Nat.reduceEqDiff, Nat.reduceLT, Int.reduceToNat, fct]) | (refine zalc ?_; intro gb wb hS) | ((with_reducible refine gSt ?_); refine zs2 ?_; intro wb hS))
  all_goals
    (first | refine G.r1 ?_ | refine G.r2 ?_ | refine G.r3 ?_ | refine G.r0 ?_ | refine G.d0 ?_); (try simp (disch := first | exact dis | fail) only [push_cast, ↓reduceIte, Nat.reduceAdd, Nat.reduceLeDiff, Nat.reduceEqDiff, Nat.reduceLT, Int.reduceToNat, fct])
    exact Sep.xt (by assumption)
theorem esL_at (i : Nat) (hi : i < 3) : esL.getD i default = (i : Int) + 1 := by
  match i, hi with
  | 0, _ => rfl
  | 1, _ => rfl
  | 2, _ => rfl
theorem isL_sl {a : Option Addr} {n c : Nat} : isL (.slice a n c) = True := rfl
theorem lenV_sl {a : Option Addr} {n c : Nat} : lenV (.slice a n c) = I (n : Int) := rfl
def c26l1 : MC := (.seq (.reg [qq 23 (.bin .lss (.tmp 22) (.tmp 21))]) (.seq (.cond (.tmp 23) .skip (.exit 4)) (.seq (.blk 5 (.seq (.reg [qq 24 (.adr 1 (.tmp 20) (.tmp 22)), qq 25 (.ld none (.tmp 24)), qm 7 25]) (.reg [qm 26 1, qm 27 3, qm 28 5, qm 29 7, qq 30 (.bld [(.int .u8 0), (.int .u8 0), (.int .i64 0)] [⟨0, ⟨1, (.tmp 27)⟩⟩, ⟨1, ⟨1, (.tmp 28)⟩⟩, ⟨2, ⟨1, (.tmp 29)⟩⟩]), qq 31 (.bsl 23 [(.int .u8 0), (.int .u8 0), (.int .i64 0)] 1 [⟨0, ⟨3, (.tmp 30)⟩⟩]), qq 32 (.raw (.call ⟨(.builtin .append), #[(.tmp 26), (.tmp 31)], #[64, 64]⟩) 64), qm 1 32]))) (.reg [qq 33 (.bin .add (.tmp 22) (ki 1)), qm 22 33]))))
def c26l2 : MC := (.seq (.reg [qq 17 (.bin .lss (.tmp 16) (.tmp 15))]) (.seq (.cond (.tmp 17) .skip (.exit 2)) (.seq (.blk 3 (.seq (.reg [qq 18 (.adr 1 (.tmp 14) (.tmp 16)), qq 19 (.ld none (.tmp 18)), qm 5 19]) (.seq (.reg [qq 20 (.bsl 3 [(.int .i64 0), (.int .i64 0), (.int .i64 0)] 3 [⟨0, ⟨1, (ki 1)⟩⟩, ⟨1, ⟨1, (ki 2)⟩⟩, ⟨2, ⟨1, (ki 3)⟩⟩]), qq 21 (.len (.tmp 20)), qq 22 (.mv (ki 0))]) (.blk 4 (.loop c26l1))))) (.reg [qq 34 (.bin .add (.tmp 16) (ki 1)), qm 16 34]))))
def c26l3 : MC := (.seq (.reg [qq 11 (.bin .lss (.tmp 10) (.tmp 9))]) (.seq (.cond (.tmp 11) .skip (.exit 0)) (.seq (.blk 1 (.seq (.reg [qq 12 (.adr 1 (.tmp 8) (.tmp 10)), qq 13 (.ld none (.tmp 12)), qm 3 13]) (.seq (.reg [qq 14 (.bsl 5 [(.int .u8 0), (.int .u8 0)] 2 [⟨0, ⟨1, (.const (.int .u8 34))⟩⟩, ⟨1, ⟨1, (.const (.int .u8 39))⟩⟩]), qq 15 (.len (.tmp 14)), qq 16 (.mv (ki 0))]) (.blk 2 (.loop c26l2))))) (.reg [qq 35 (.bin .add (.tmp 10) (ki 1)), qm 10 35]))))
def c26 : MC := (.seq (.reg [qq 0 (.mv (.const (.slice none 0 0)))]) (.seq (.reg [qq 1 (.mv (.const (.slice none 0 0)))]) (.seq (.seq (.reg [qq 8 (.bsl 5 [(.int .u8 0), (.int .u8 0), (.int .u8 0), (.int .u8 0)] 4 [⟨0, ⟨1, (.const (.int .u8 44))⟩⟩, ⟨1, ⟨1, (.const (.int .u8 59))⟩⟩, ⟨2, ⟨1, (.const (.int .u8 9))⟩⟩, ⟨3, ⟨1, (.const (.int .u8 124))⟩⟩]), qq 9 (.len (.tmp 8)), qq 10 (.mv (ki 0))]) (.blk 0 (.loop c26l3))) (.seq (.reg [qm 36 1, qm 0 36]) .ret))))
theorem k26 : conv Try.prog 37 (Try.f26.body.getD .skip) = c26 := by kernel_rfl
theorem in26 {w : World} {R : Value → World → Prop} (h : G Try.prog Try.f26 37 [.c c26] R (frL 0 []) w) : Ret Try.prog 26 #[] w R := G.enter (args := []) Try.func26 (c := Try.f26.body.getD .skip) (by kernel_rfl) (by kernel_rfl) (by simp) k26 h
set_option maxHeartbeats 1000000 in
theorem tried_spec (w : World) : Ret Try.prog 26 #[] w fun res w' => Sep w w' [accC res 23 eDl triedL] := by
  refine in26 ?_
  have hS := (Sep.start w).nil 23 eDl
  have htl := tried_len
  (have fct := (And.intro @isL_sl @lenV_sl); repeat' (first | ((with_reducible apply G.a); exact rfl) | refine G.reg fun K hK => ?_ | (with_reducible (refine hK _ _ ?_); clear hK K) | (with_reducible (refine hK _ ?_); clear hK K; intro wd hxd; have hS := Sep.xx hxd) | ((first | have hk := hK | have hk := hK2); clear hk; simp (disch := first | exact dis | fail) only [push_cast, ↓reduceIte, Nat.reduceAdd, Nat.reduceLeDiff, Nat.reduceEqDiff, Nat.reduceLT, Int.reduceToNat, fct]) | ((first | refine brO_n ?_ ?_ | refine brQ_n ?_ ?_) <;> intro hb hc <;> first | (with_reducible exact False.elim hc) | (exfalso; omega) | (simp only [hb]; clear hb)) | ((first | refine zalc ?_ | refine zbsl ?_ | ((with_reducible refine gBox ?_); refine zbox ?_)); intro gb wb hS) | ((with_reducible refine gSt ?_); refine zs2 ?_; intro wb hS) | (refine G.drt mixed fun K hK wd hxd => ?_; have hS := Sep.xx hxd) | with_reducible refine OT_leaf ?_ | (with_reducible (refine hK2 _ ?_); clear hK2 K2; intro wd hxd; have hS := Sep.xx hxd) | with_reducible refine OT_br fun K2 hK2 => ?_ | (refine hK2 _ _ ?_ ?_ <;> clear hK2 K2) | refine G.drg mixed fun K hK => ?_ | (refine G.cn ?_ ?_ <;> intro hc <;> first | (with_reducible exact False.elim hc) | (exfalso; omega) | skip))) <;> (try clear fct)
  refine G.loop (fun r w' => ∃ (k g1 : Nat) (l : Value), k ≤ 4 ∧ r 1 = l ∧ r 8 = .slice (some ⟨g1, 0, none⟩) 4 4 ∧ r 9 = I 4 ∧ r 10 = I k ∧ Sep w w' [accC l 23 eDl (triedL.take (6 * k)), boxC g1 5 [U 44, U 59, U 9, U 124]]) (fun r _ => 4 - toN (r 10)) ?_ ?_
  · exact ⟨0, _, _, by omega, by exact sf, by exact sf, by exact sf, by exact sf, (Sep.sub hS (by repeat first | exact Sub.rfl' | exact Sub.nil0 | (refine Sub.c (by repeat constructor) ?_) | refine Sub.skip ?_))⟩
  · clear hS
    rintro u wl ⟨k, g1, l, hk, q1, q8, q9, q10, hS⟩ ih
    have hm : toN (u 10) = k := by rw [q10]; simp [toN]
    by_cases hlt : (k : Int) < 4
    · have hr1 : Rd wl eB8 (.slice (some ⟨g1, 0, none⟩) 4 4) dlsL := rd_of eB8 dlsL (Sep.blk hS (.t .h)) rfl (by decide) (by simp [dlsL, eB8, one_i])
      have hl1 : dlsL.length = 4 := rfl
      (have fct := (And.intro @q1 (And.intro @q8 (And.intro @q9 (And.intro @q10 (And.intro @eB8_f (And.intro @isL_sl @lenV_sl)))))); repeat' (first | ((with_reducible apply G.a); exact rfl) | refine G.reg fun K hK => ?_ | (with_reducible (refine hK _ _ ?_); clear hK K) | (with_reducible (refine hK _ ?_); clear hK K; intro wd hxd; have hS := Sep.xx hxd) | ((first | have hk := hK | have hk := hK2); clear hk; simp (disch := first | exact dis | fail) only [push_cast, ↓reduceIte, Nat.reduceAdd, Nat.reduceLeDiff, Nat.reduceEqDiff, Nat.reduceLT, Int.reduceToNat, fct]) | ((first | refine brO_n ?_ ?_ | refine brQ_n ?_ ?_) <;> intro hb hc <;> first | (with_reducible exact False.elim hc) | (exfalso; omega) | (simp only [hb]; clear hb)) | ((first | refine zalc ?_ | refine zbsl ?_ | ((with_reducible refine gBox ?_); refine zbox ?_)); intro gb wb hS) | ((with_reducible refine gSt ?_); refine zs2 ?_; intro wb hS) | (refine G.drt mixed fun K hK wd hxd => ?_; have hS := Sep.xx hxd) | with_reducible refine OT_leaf ?_ | (with_reducible (refine hK2 _ ?_); clear hK2 K2; intro wd hxd; have hS := Sep.xx hxd) | with_reducible refine OT_br fun K2 hK2 => ?_ | (refine hK2 _ _ ?_ ?_ <;> clear hK2 K2) | refine G.drg mixed fun K hK => ?_ | (refine G.cn ?_ ?_ <;> intro hc <;> first | (with_reducible exact False.elim hc) | (exfalso; omega) | skip))) <;> (try clear fct)
      refine G.loop (fun r w' => ∃ (j g2 : Nat) (l : Value), j ≤ 2 ∧ r 1 = l ∧ r 3 = U (dlsL.getD k default) ∧ r 8 = .slice (some ⟨g1, 0, none⟩) 4 4 ∧ r 9 = I 4 ∧ r 10 = I k ∧ r 14 = .slice (some ⟨g2, 0, none⟩) 2 2 ∧ r 15 = I 2 ∧ r 16 = I j ∧ Sep w w' [accC l 23 eDl (triedL.take (6 * k + 3 * j)), boxC g1 5 [U 44, U 59, U 9, U 124], boxC g2 5 [U 34, U 39]]) (fun r _ => 2 - toN (r 16)) ?_ ?_
      · have fct := (And.intro @q1 (And.intro @q8 (And.intro @q9 @q10))); exact ⟨0, _, _, by omega, by exact sf, by exact sf, by exact sf, by exact sf, by exact sf, by exact sf, by exact sf, by exact sf, (Sep.sub hS (by repeat first | exact Sub.rfl' | exact Sub.nil0 | (refine Sub.c (by repeat constructor) ?_) | refine Sub.skip ?_))⟩
      · clear hS q1 q8 q9 q10
        rintro u2 wl2 ⟨j, g2, l, hj, q1, q3, q8, q9, q10, q14, q15, q16, hS⟩ ih2
        have hm2 : toN (u2 16) = j := by rw [q16]; simp [toN]
        by_cases hlt2 : (j : Int) < 2
        · have hr2 : Rd wl2 eB8 (.slice (some ⟨g2, 0, none⟩) 2 2) qsL := rd_of eB8 qsL (Sep.blk hS (.t (.t .h))) rfl (by decide) (by simp [qsL, eB8, one_i])
          have hl2 : qsL.length = 2 := rfl
          (have fct := (And.intro @q1 (And.intro @q3 (And.intro @q8 (And.intro @q9 (And.intro @q10 (And.intro @q14 (And.intro @q15 (And.intro @q16 (And.intro @eB8_f (And.intro @isL_sl @lenV_sl)))))))))); repeat' (first | ((with_reducible apply G.a); exact rfl) | refine G.reg fun K hK => ?_ | (with_reducible (refine hK _ _ ?_); clear hK K) | (with_reducible (refine hK _ ?_); clear hK K; intro wd hxd; have hS := Sep.xx hxd) | ((first | have hk := hK | have hk := hK2); clear hk; simp (disch := first | exact dis | fail) only [push_cast, ↓reduceIte, Nat.reduceAdd, Nat.reduceLeDiff, Nat.reduceEqDiff, Nat.reduceLT, Int.reduceToNat, fct]) | ((first | refine brO_n ?_ ?_ | refine brQ_n ?_ ?_) <;> intro hb hc <;> first | (with_reducible exact False.elim hc) | (exfalso; omega) | (simp only [hb]; clear hb)) | ((first | refine zalc ?_ | refine zbsl ?_ | ((with_reducible refine gBox ?_); refine zbox ?_)); intro gb wb hS) | ((with_reducible refine gSt ?_); refine zs2 ?_; intro wb hS) | (refine G.drt mixed fun K hK wd hxd => ?_; have hS := Sep.xx hxd) | with_reducible refine OT_leaf ?_ | (with_reducible (refine hK2 _ ?_); clear hK2 K2; intro wd hxd; have hS := Sep.xx hxd) | with_reducible refine OT_br fun K2 hK2 => ?_ | (refine hK2 _ _ ?_ ?_ <;> clear hK2 K2) | refine G.drg mixed fun K hK => ?_ | (refine G.cn ?_ ?_ <;> intro hc <;> first | (with_reducible exact False.elim hc) | (exfalso; omega) | skip))) <;> (try clear fct)
          refine G.loop (fun r w' => ∃ (i g3 : Nat) (l : Value), i ≤ 3 ∧ r 1 = l ∧ r 3 = U (dlsL.getD k default) ∧ r 5 = U (qsL.getD j default) ∧ r 8 = .slice (some ⟨g1, 0, none⟩) 4 4 ∧ r 9 = I 4 ∧ r 10 = I k ∧ r 14 = .slice (some ⟨g2, 0, none⟩) 2 2 ∧ r 15 = I 2 ∧ r 16 = I j ∧ r 20 = .slice (some ⟨g3, 0, none⟩) 3 3 ∧ r 21 = I 3 ∧ r 22 = I i ∧
            Sep w w' [accC l 23 eDl (triedL.take (6 * k + 3 * j + i)), boxC g1 5 [U 44, U 59, U 9, U 124], boxC g2 5 [U 34, U 39], boxC g3 3 [I 1, I 2, I 3]]) (fun r _ => 3 - toN (r 22)) ?_ ?_
          · have fct := (And.intro @q1 (And.intro @q3 (And.intro @q8 (And.intro @q9 (And.intro @q10 (And.intro @q14 (And.intro @q15 @q16))))))); exact ⟨0, _, _, by omega, by exact sf, by exact sf, by exact sf, by exact sf, by exact sf, by exact sf, by exact sf, by exact sf, by exact sf, by exact sf, by exact sf, by exact sf, (Sep.sub hS (by repeat first | exact Sub.rfl' | exact Sub.nil0 | (refine Sub.c (by repeat constructor) ?_) | refine Sub.skip ?_))⟩
          · clear hS q1 q3 q8 q9 q10 q14 q15 q16
            rintro u3 wl3 ⟨i, g3, l, hi, q1, q3, q5, q8, q9, q10, q14, q15, q16, q20, q21, q22, hS⟩ ih3
            have hm3 : toN (u3 22) = i := by rw [q22]; simp [toN]
            by_cases hlt3 : (i : Int) < 3
            · have hr3 : Rd wl3 eI (.slice (some ⟨g3, 0, none⟩) 3 3) esL := rd_of eI esL (Sep.blk hS (.t (.t (.t .h)))) rfl (by decide) (by simp [esL, eI, one_i])
              have hl3 : esL.length = 3 := rfl
              have hst := tried_step (k := k) (j := j) (i := i) (by omega) (by omega) (by omega)
              (have fct := (And.intro @q1 (And.intro @q3 (And.intro @q5 (And.intro @q8 (And.intro @q9 (And.intro @q10 (And.intro @q14 (And.intro @q15 (And.intro @q16 (And.intro @q20 (And.intro @q21 @q22))))))))))); repeat' (first | ((with_reducible apply G.a); exact rfl) | refine G.reg fun K hK => ?_ | (with_reducible (refine hK _ _ ?_); clear hK K) | (with_reducible (refine hK _ ?_); clear hK K; intro wd hxd; have hS := Sep.xx hxd) | ((first | have hk := hK | have hk := hK2); clear hk; simp (disch := first | exact dis | fail) only [push_cast, ↓reduceIte, Nat.reduceAdd, Nat.reduceLeDiff, Nat.reduceEqDiff, Nat.reduceLT, Int.reduceToNat, fct]) | ((first | refine brO_n ?_ ?_ | refine brQ_n ?_ ?_) <;> intro hb hc <;> first | (with_reducible exact False.elim hc) | (exfalso; omega) | (simp only [hb]; clear hb)) | ((first | refine zalc ?_ | refine zbsl ?_ | ((with_reducible refine gBox ?_); refine zbox ?_)); intro gb wb hS) | ((with_reducible refine gSt ?_); refine zs2 ?_; intro wb hS) | (refine zap (y := (⟨dlsL.getD k default, qsL.getD j default, esL.getD i default⟩ : Dl)) ?_ (hy := by rfl); intro vb wb hS) | (refine G.drt mixed fun K hK wd hxd => ?_; have hS := Sep.xx hxd) | with_reducible refine OT_leaf ?_ | (with_reducible (refine hK2 _ ?_); clear hK2 K2; intro wd hxd; have hS := Sep.xx hxd) | with_reducible refine OT_br fun K2 hK2 => ?_ | (refine hK2 _ _ ?_ ?_ <;> clear hK2 K2) | refine G.drg mixed fun K hK => ?_ | (refine G.cn ?_ ?_ <;> intro hc <;> first | (with_reducible exact False.elim hc) | (exfalso; omega) | skip))) <;> (try clear fct)
              all_goals
                rw [hst] at hS
                have fct := (And.intro @q1 (And.intro @q3 (And.intro @q5 (And.intro @q8 (And.intro @q9 (And.intro @q10 (And.intro @q14 (And.intro @q15 (And.intro @q16 (And.intro @q20 (And.intro @q21 @q22))))))))))); refine ih3 _ _ ⟨i + 1, g3, _, by omega, by exact sf, by exact sf, by exact sf, by exact sf, by exact sf, by exact sf, by exact sf, by exact sf, by exact sf, by exact sf, by exact sf, by exact sf, (Sep.sub hS (by repeat first | exact Sub.rfl' | exact Sub.nil0 | (refine Sub.c (by repeat constructor) ?_) | refine Sub.skip ?_))⟩ ?_
                rw [hm3]; simp only [push_cast, ↓reduceIte, Nat.reduceAdd, Nat.reduceLeDiff, Nat.reduceEqDiff, Nat.reduceLT, Int.reduceToNat, toN_i, q1, q3, q5, q8, q9, q10, q14, q15, q16, q20, q21, q22]; omega
            · have ei : i = 3 := by omega
              subst ei
              (have fct := (And.intro @q1 (And.intro @q3 (And.intro @q5 (And.intro @q8 (And.intro @q9 (And.intro @q10 (And.intro @q14 (And.intro @q15 (And.intro @q16 (And.intro @q20 (And.intro @q21 @q22))))))))))); repeat' (first | ((with_reducible apply G.a); exact rfl) | refine G.reg fun K hK => ?_ | (with_reducible (refine hK _ _ ?_); clear hK K) | (with_reducible (refine hK _ ?_); clear hK K; intro wd hxd; have hS := Sep.xx hxd) | ((first | have hk := hK | have hk := hK2); clear hk; simp (disch := first | exact dis | fail) only [push_cast, ↓reduceIte, Nat.reduceAdd, Nat.reduceLeDiff, Nat.reduceEqDiff, Nat.reduceLT, Int.reduceToNat, fct]) | ((first | refine brO_n ?_ ?_ | refine brQ_n ?_ ?_) <;> intro hb hc <;> first | (with_reducible exact False.elim hc) | (exfalso; omega) | (simp only [hb]; clear hb)) | ((first | refine zalc ?_ | refine zbsl ?_ | ((with_reducible refine gBox ?_); refine zbox ?_)); intro gb wb hS) | ((with_reducible refine gSt ?_); refine zs2 ?_; intro wb hS) | (refine G.drt mixed fun K hK wd hxd => ?_; have hS := Sep.xx hxd) | with_reducible refine OT_leaf ?_ | (with_reducible (refine hK2 _ ?_); clear hK2 K2; intro wd hxd; have hS := Sep.xx hxd) | with_reducible refine OT_br fun K2 hK2 => ?_ | (refine hK2 _ _ ?_ ?_ <;> clear hK2 K2) | refine G.drg mixed fun K hK => ?_ | (refine G.cn ?_ ?_ <;> intro hc <;> first | (with_reducible exact False.elim hc) | (exfalso; omega) | skip))) <;> (try clear fct)
              all_goals
                have fct := (And.intro @q1 (And.intro @q3 (And.intro @q5 (And.intro @q8 (And.intro @q9 (And.intro @q10 (And.intro @q14 (And.intro @q15 (And.intro @q16 (And.intro @q20 (And.intro @q21 @q22))))))))))); refine ih2 _ _ ⟨j + 1, g2, _, by omega, by exact sf, by exact sf, by exact sf, by exact sf, by exact sf, by exact sf, by exact sf, by exact sf, by rw [show 6 * k + 3 * (j + 1) = 6 * k + 3 * j + 3 from by omega]; exact (Sep.sub hS (by repeat first | exact Sub.rfl' | exact Sub.nil0 | (refine Sub.c (by repeat constructor) ?_) | refine Sub.skip ?_))⟩ ?_
                rw [hm2]; simp only [push_cast, ↓reduceIte, Nat.reduceAdd, Nat.reduceLeDiff, Nat.reduceEqDiff, Nat.reduceLT, Int.reduceToNat, toN_i, q1, q3, q5, q8, q9, q10, q14, q15, q16, q20, q21, q22]; omega
        · have ej : j = 2 := by omega
          subst ej
          (have fct := (And.intro @q1 (And.intro @q3 (And.intro @q8 (And.intro @q9 (And.intro @q10 (And.intro @q14 (And.intro @q15 @q16))))))); repeat' (first | ((with_reducible apply G.a); exact rfl) | refine G.reg fun K hK => ?_ | (with_reducible (refine hK _ _ ?_); clear hK K) | (with_reducible (refine hK _ ?_); clear hK K; intro wd hxd; have hS := Sep.xx hxd) | ((first | have hk := hK | have hk := hK2); clear hk; simp (disch := first | exact dis | fail) only [push_cast, ↓reduceIte, Nat.reduceAdd, Nat.reduceLeDiff, Nat.reduceEqDiff, Nat.reduceLT, Int.reduceToNat, fct]) | ((first | refine brO_n ?_ ?_ | refine brQ_n ?_ ?_) <;> intro hb hc <;> first | (with_reducible exact False.elim hc) | (exfalso; omega) | (simp only [hb]; clear hb)) | ((first | refine zalc ?_ | refine zbsl ?_ | ((with_reducible refine gBox ?_); refine zbox ?_)); intro gb wb hS) | ((with_reducible refine gSt ?_); refine zs2 ?_; intro wb hS) | (refine G.drt mixed fun K hK wd hxd => ?_; have hS := Sep.xx hxd) | with_reducible refine OT_leaf ?_ | (with_reducible (refine hK2 _ ?_); clear hK2 K2; intro wd hxd; have hS := Sep.xx hxd) | with_reducible refine OT_br fun K2 hK2 => ?_ | (refine hK2 _ _ ?_ ?_ <;> clear hK2 K2) | refine G.drg mixed fun K hK => ?_ | (refine G.cn ?_ ?_ <;> intro hc <;> first | (with_reducible exact False.elim hc) | (exfalso; omega) | skip))) <;> (try clear fct)
          all_goals
            have fct := (And.intro @q1 (And.intro @q3 (And.intro @q8 (And.intro @q9 (And.intro @q10 (And.intro @q14 (And.intro @q15 @q16))))))); refine ih _ _ ⟨k + 1, g1, _, by omega, by exact sf, by exact sf, by exact sf, by exact sf, by rw [show 6 * (k + 1) = 6 * k + 3 * 2 from by omega]; exact (Sep.sub hS (by repeat first | exact Sub.rfl' | exact Sub.nil0 | (refine Sub.c (by repeat constructor) ?_) | refine Sub.skip ?_))⟩ ?_
            rw [hm]; simp only [push_cast, ↓reduceIte, Nat.reduceAdd, Nat.reduceLeDiff, Nat.reduceEqDiff, Nat.reduceLT, Int.reduceToNat, toN_i, q1, q3, q8, q9, q10, q14, q15, q16]; omega
    · have ek : k = 4 := by omega
      subst ek
      have et : triedL.take (6 * 4) = triedL := rfl
      rw [et] at hS
      (have fct := (And.intro @q1 (And.intro @q8 (And.intro @q9 @q10))); repeat' (first | ((with_reducible apply G.a); exact rfl) | refine G.reg fun K hK => ?_ | (with_reducible (refine hK _ _ ?_); clear hK K) | (with_reducible (refine hK _ ?_); clear hK K; intro wd hxd; have hS := Sep.xx hxd) | ((first | have hk := hK | have hk := hK2); clear hk; simp (disch := first | exact dis | fail) only [push_cast, ↓reduceIte, Nat.reduceAdd, Nat.reduceLeDiff, Nat.reduceEqDiff, Nat.reduceLT, Int.reduceToNat, fct]) | ((first | refine brO_n ?_ ?_ | refine brQ_n ?_ ?_) <;> intro hb hc <;> first | (with_reducible exact False.elim hc) | (exfalso; omega) | (simp only [hb]; clear hb)) | ((first | refine zalc ?_ | refine zbsl ?_ | ((with_reducible refine gBox ?_); refine zbox ?_)); intro gb wb hS) | ((with_reducible refine gSt ?_); refine zs2 ?_; intro wb hS) | (refine G.drt mixed fun K hK wd hxd => ?_; have hS := Sep.xx hxd) | with_reducible refine OT_leaf ?_ | (with_reducible (refine hK2 _ ?_); clear hK2 K2; intro wd hxd; have hS := Sep.xx hxd) | with_reducible refine OT_br fun K2 hK2 => ?_ | (refine hK2 _ _ ?_ ?_ <;> clear hK2 K2) | refine G.drg mixed fun K hK => ?_ | (refine G.cn ?_ ?_ <;> intro hc <;> first | (with_reducible exact False.elim hc) | (exfalso; omega) | skip))) <;> (try clear fct)
      (have fct := (And.intro @q1 (And.intro @q8 (And.intro @q9 @q10))); (first | refine G.r1 ?_ | refine G.r2 ?_ | refine G.r3 ?_ | refine G.r0 ?_ | refine G.d0 ?_); (try simp (disch := first | exact dis | fail) only [push_cast, ↓reduceIte, Nat.reduceAdd, Nat.reduceLeDiff, Nat.reduceEqDiff, Nat.reduceLT, Int.reduceToNat, fct]); (try clear fct))
      exact (Sep.sub hS (by repeat first | exact Sub.rfl' | exact Sub.nil0 | (refine Sub.c (by repeat constructor) ?_) | refine Sub.skip ?_))
def c20l1 : MC := (.seq (.reg [qq 43 (.bin .lss (.tmp 42) (.tmp 41))]) (.seq (.cond (.tmp 43) .skip (.exit 0)) (.seq (.blk 1 (.seq (.reg [qq 44 (.adr 1 (.tmp 40) (.tmp 42)), qq 45 (.ld none (.tmp 44)), qm 12 45]) (.seq (.seq (.reg [qm 46 12, qq 47 (.len (.tmp 46)), qm 48 9, qq 49 (.bin .neq (.tmp 47) (.tmp 48))]) (.cond (.tmp 49) (.exit 0) .skip)) (.reg [qm 50 10, qq 51 (.bin .add (.tmp 50) (ki 1)), qm 10 51])))) (.reg [qq 52 (.bin .add (.tmp 42) (ki 1)), qm 42 52]))))
def c20 : MC := (.seq (.reg [qq 2 (.raw (.box 23 (.tmp 0)) 0), qq 4 (.mv (ki 0)), qq 5 (.mv (ki 0))]) (.seq (.seq (.reg [qq 14 (.ld (.some 3) (.tmp 2)), qq 15 (.call 30 [(.tmp 14)]), qm 6 15]) (.seq (.reg [qm 16 6, qq 17 (.bin .neq (.tmp 16) (ki 0))]) (.cond (.tmp 17) (.seq (.reg [qm 18 6, qq 4 (.mv (ki 0)), qm 5 18]) .ret) .skip))) (.seq (.drg [qq 20 (.ld (.some 3) (.tmp 2)), qq 21 (.call 31 []), qm 22 1, qq 23 (.call 16 [(.tmp 20), (.tmp 21), (.tmp 22)]), qm 19 23, qq 24 (.ext 0 (.tmp 19)), qq 25 (.ext 1 (.tmp 19)), qq 8 (.alc 34 [(.int .i64 0), (.int .i64 0)]), qm 7 24, qn (.st 2 (.tmp 8) (.tmp 25))] (.some (.br [qm 22 1] (.br [qq 20 (.ld (.some 3) (.tmp 2))] (.br [qq 21 (.call 31 [])] (.leaf [qq 23 (.call 16 [(.tmp 20), (.tmp 21), (.tmp 22)]), qm 19 23, qq 24 (.ext 0 (.tmp 19)), qq 25 (.ext 1 (.tmp 19)), qq 8 (.alc 34 [(.int .i64 0), (.int .i64 0)]), qm 7 24, qn (.st 2 (.tmp 8) (.tmp 25))]) (.leaf [qq 8 (.alc 34 [(.int .i64 0), (.int .i64 0)]), qq 23 (.call 16 [(.tmp 20), (.tmp 21), (.tmp 22)]), qm 19 23, qq 24 (.ext 0 (.tmp 19)), qq 25 (.ext 1 (.tmp 19)), qm 7 24, qn (.st 2 (.tmp 8) (.tmp 25))])) (.leaf [qq 8 (.alc 34 [(.int .i64 0), (.int .i64 0)]), qq 21 (.call 31 []), qq 23 (.call 16 [(.tmp 20), (.tmp 21), (.tmp 22)]), qm 19 23, qq 24 (.ext 0 (.tmp 19)), qq 25 (.ext 1 (.tmp 19)), qm 7 24, qn (.st 2 (.tmp 8) (.tmp 25))])) (.br [] (.br [qq 21 (.call 31 [])] (.br [qq 20 (.ld (.some 3) (.tmp 2))] (.leaf [qq 23 (.call 16 [(.tmp 20), (.tmp 21), (.tmp 22)]), qm 19 23, qq 24 (.ext 0 (.tmp 19)), qq 25 (.ext 1 (.tmp 19)), qq 8 (.alc 34 [(.int .i64 0), (.int .i64 0)]), qm 7 24, qn (.st 2 (.tmp 8) (.tmp 25))]) (.leaf [qq 8 (.alc 34 [(.int .i64 0), (.int .i64 0)]), qq 23 (.call 16 [(.tmp 20), (.tmp 21), (.tmp 22)]), qm 19 23, qq 24 (.ext 0 (.tmp 19)), qq 25 (.ext 1 (.tmp 19)), qm 7 24, qn (.st 2 (.tmp 8) (.tmp 25))])) (.leaf [qq 8 (.alc 34 [(.int .i64 0), (.int .i64 0)]), qq 20 (.ld (.some 3) (.tmp 2)), qq 23 (.call 16 [(.tmp 20), (.tmp 21), (.tmp 22)]), qm 19 23, qq 24 (.ext 0 (.tmp 19)), qq 25 (.ext 1 (.tmp 19)), qm 7 24, qn (.st 2 (.tmp 8) (.tmp 25))])) (.br [qq 8 (.alc 34 [(.int .i64 0), (.int .i64 0)])] (.leaf [qq 20 (.ld (.some 3) (.tmp 2)), qq 21 (.call 31 []), qq 23 (.call 16 [(.tmp 20), (.tmp 21), (.tmp 22)]), qm 19 23, qq 24 (.ext 0 (.tmp 19)), qq 25 (.ext 1 (.tmp 19)), qm 7 24, qn (.st 2 (.tmp 8) (.tmp 25))]) (.leaf [qq 21 (.call 31 []), qq 20 (.ld (.some 3) (.tmp 2)), qq 23 (.call 16 [(.tmp 20), (.tmp 21), (.tmp 22)]), qm 19 23, qq 24 (.ext 0 (.tmp 19)), qq 25 (.ext 1 (.tmp 19)), qm 7 24, qn (.st 2 (.tmp 8) (.tmp 25))])))))) (.seq (.seq (.reg [qm 26 7, qq 27 (.len (.tmp 26)), qq 28 (.bin .eql (.tmp 27) (ki 0)), qm 29 28, qmf 29 30 7, qf 29 31 (.adr 1 (.tmp 30) (ki 0)), qf 29 32 (.ld none (.tmp 31)), qf 29 33 (.len (.tmp 32)), qf 29 34 (.bin .lss (.tmp 33) (ki 2)), qq 35 (.pick (.tmp 29) (kb true) (.tmp 34))]) (.cond (.tmp 35) (.seq (.reg [qq 4 (.mv (ki 0)), qq 5 (.mv (ki 0))]) .ret) .skip)) (.seq (.reg [qm 36 7, qq 37 (.adr 1 (.tmp 36) (ki 0)), qq 38 (.ld none (.tmp 37)), qq 39 (.len (.tmp 38)), qm 9 39]) (.seq (.reg [qq 10 (.mv (ki 0))]) (.seq (.seq (.reg [qm 40 7, qq 41 (.len (.tmp 40)), qq 42 (.mv (ki 0))]) (.blk 0 (.loop c20l1))) (.seq (.reg [qm 53 10, qq 54 (.raw (.call ⟨(.builtin .min), #[(.tmp 53), (ki 999)], #[3, 3]⟩) 3), qm 13 54]) (.seq (.seq (.reg [qq 55 (.fad 0 (.tmp 8)), qq 56 (.ld none (.tmp 55)), qq 57 (.bin .eql (.tmp 56) (ki 0)), qm 58 57, qmt 58 59 7, qt 58 60 (.len (.tmp 59)), qt 58 61 (.bin .geq (.tmp 60) (ki 2)), qq 62 (.pick (.tmp 58) (.tmp 61) (kb false)), qm 63 62, qmt 63 64 10, qmt 63 65 7, qt 63 66 (.len (.tmp 65)), qt 63 67 (.bin .eql (.tmp 64) (.tmp 66)), qq 68 (.pick (.tmp 63) (.tmp 67) (kb false))]) (.cond (.tmp 68) (.reg [qm 69 13, qm 70 9, qq 71 (.bin .mul (ki 1000) (.tmp 70)), qq 72 (.bin .add (ki 1000000) (.tmp 71)), qq 73 (.bin .add (.tmp 69) (.tmp 72)), qm 13 73]) .skip)) (.seq (.reg [qm 74 13, qm 4 74, qq 5 (.mv (ki 0))]) .ret))))))))))
theorem k20 : conv Try.prog 75 (Try.f20.body.getD .skip) = c20 := by kernel_rfl
theorem in20 {a0 a1 : Value} {w : World} {R : Value → World → Prop} (h : G Try.prog Try.f20 75 [.c c20] R (frL 0 [a0, a1]) w) : Ret Try.prog 20 #[a0, a1] w R := G.enter (args := [a0, a1]) Try.func20 (c := Try.f20.body.getD .skip) (by kernel_rfl) (by kernel_rfl) (by simp) k20 h
def scC (T : MC) : MC := match c20 with
  | .seq a (.seq b (.seq c _)) => .seq a (.seq b (.seq c T))
  | x => x
def scT : MC := match c20 with
  | .seq _ (.seq _ (.seq _ t)) => t
  | x => x
def scC2 (T : MC) : MC := match scT with
  | .seq b (.seq c (.seq d (.seq l _))) => .seq b (.seq c (.seq d (.seq l T)))
  | x => x
def scT2 : MC := match scT with
  | .seq _ (.seq _ (.seq _ (.seq _ t))) => t
  | x => x
theorem sc_eq : c20 = scC scT := by rfl
theorem sc_eq2 : scT = scC2 scT2 := by rfl
section
variable {v : Value} {vs : List Value} {t : List (List Str)} {kk aa : Int} {g8 : Nat} {w w0 : World}
theorem sc_t2 {n : Nat} {ρ : Fr} {R : Value → World → Prop} {k wd : Nat} (q7 : ρ 7 = v) (q8 : ρ 8 = .pointer (some ⟨g8, 0, none⟩)) (q9 : ρ 9 = I wd) (q10 : ρ 10 = I k) (hk : k ≤ t.length) (hvl : vs.length = t.length) (hvb : (vs.length : Int) ≤ 1000000) (hw : kk = 0 → (wd : Int) ≤ 2147483648)
    (hS : Sep w0 w [boxC g8 34 [I kk, I aa], accC v 38 eV vs, frzC eS vs t])
    (hR : ∀ w', Ext w0 w' → R (.tuple #[I (min (k : Int) 999 + if kk = 0 ∧ 2 ≤ t.length ∧ k = t.length then 1000000 + 1000 * (wd : Int) else 0), I 0]) w') :
    G Try.prog Try.f20 n [.c scT2] R ρ w := by
  unfold scT2 scT c20
  dsimp only
  by_cases hc0 : kk = 0 ∧ 2 ≤ t.length ∧ k = t.length
  · obtain ⟨e1, e2, e3⟩ := hc0
    rw [if_pos ⟨e1, e2, e3⟩] at hR
    have hw2 := hw e1
    (have fct := (And.intro @q7 (And.intro @q8 (And.intro @q9 @q10))); repeat' (first | ((with_reducible apply G.a); exact rfl) | refine G.reg fun K hK => ?_ | (with_reducible (refine hK _ _ ?_); clear hK K) | (with_reducible (refine hK _ ?_); clear hK K; intro wd hxd; have hS := Sep.xx hxd) | ((first | have hk := hK | have hk := hK2); clear hk; simp (disch := first | exact dis | fail) only [push_cast, ↓reduceIte, Nat.reduceAdd, Nat.reduceLeDiff, Nat.reduceEqDiff, Nat.reduceLT, Int.reduceToNat, fct]) | ((first | refine brO_n ?_ ?_ | refine brQ_n ?_ ?_) <;> intro hb hc <;> first | (with_reducible exact False.elim hc) | (exfalso; omega) | (simp only [hb]; clear hb)) | ((first | refine zalc ?_ | ((with_reducible refine gBox ?_); refine zbox ?_)); intro gb wb hS) | ((with_reducible refine gSt ?_); refine zs2 ?_; intro wb hS) | (refine G.drt mixed fun K hK wd hxd => ?_; have hS := Sep.xx hxd) | with_reducible refine OT_leaf ?_ | (with_reducible (refine hK2 _ ?_); clear hK2 K2; intro wd hxd; have hS := Sep.xx hxd) | with_reducible refine OT_br fun K2 hK2 => ?_ | (refine hK2 _ _ ?_ ?_ <;> clear hK2 K2) | refine G.drg mixed fun K hK => ?_ | (refine G.cn ?_ ?_ <;> intro hc <;> first | (with_reducible exact False.elim hc) | (exfalso; omega) | skip))) <;> (try clear fct)
    all_goals
      (have fct := (And.intro @q7 (And.intro @q8 (And.intro @q9 @q10))); (first | refine G.r1 ?_ | refine G.r2 ?_ | refine G.r3 ?_ | refine G.r0 ?_ | refine G.d0 ?_); (try simp (disch := first | exact dis | fail) only [push_cast, ↓reduceIte, Nat.reduceAdd, Nat.reduceLeDiff, Nat.reduceEqDiff, Nat.reduceLT, Int.reduceToNat, fct]); (try clear fct))
      exact hR _ (Sep.xt (by assumption))
  · rw [if_neg hc0, Int.add_zero] at hR
    (have fct := (And.intro @q7 (And.intro @q8 (And.intro @q9 @q10))); repeat' (first | ((with_reducible apply G.a); exact rfl) | refine G.reg fun K hK => ?_ | (with_reducible (refine hK _ _ ?_); clear hK K) | (with_reducible (refine hK _ ?_); clear hK K; intro wd hxd; have hS := Sep.xx hxd) | ((first | have hk := hK | have hk := hK2); clear hk; simp (disch := first | exact dis | fail) only [push_cast, ↓reduceIte, Nat.reduceAdd, Nat.reduceLeDiff, Nat.reduceEqDiff, Nat.reduceLT, Int.reduceToNat, fct]) | ((first | refine brO_n ?_ ?_ | refine brQ_n ?_ ?_) <;> intro hb hc <;> first | (with_reducible exact False.elim hc) | (exfalso; omega) | (simp only [hb]; clear hb)) | ((first | refine zalc ?_ | ((with_reducible refine gBox ?_); refine zbox ?_)); intro gb wb hS) | ((with_reducible refine gSt ?_); refine zs2 ?_; intro wb hS) | (refine G.drt mixed fun K hK wd hxd => ?_; have hS := Sep.xx hxd) | with_reducible refine OT_leaf ?_ | (with_reducible (refine hK2 _ ?_); clear hK2 K2; intro wd hxd; have hS := Sep.xx hxd) | with_reducible refine OT_br fun K2 hK2 => ?_ | (refine hK2 _ _ ?_ ?_ <;> clear hK2 K2) | refine G.drg mixed fun K hK => ?_ | (refine G.cn ?_ ?_ <;> intro hc <;> first | (with_reducible exact False.elim hc) | (exfalso; omega) | skip))) <;> (try clear fct)
    all_goals first
      | (exfalso; omega)
      | ((have fct := (And.intro @q7 (And.intro @q8 (And.intro @q9 @q10))); (first | refine G.r1 ?_ | refine G.r2 ?_ | refine G.r3 ?_ | refine G.r0 ?_ | refine G.d0 ?_); (try simp (disch := first | exact dis | fail) only [push_cast, ↓reduceIte, Nat.reduceAdd, Nat.reduceLeDiff, Nat.reduceEqDiff, Nat.reduceLT, Int.reduceToNat, fct]); (try clear fct)); exact hR _ (Sep.xt (by assumption)))
theorem sc_t {n : Nat} {ρ : Fr} {R : Value → World → Prop} (q7 : ρ 7 = v) (q8 : ρ 8 = .pointer (some ⟨g8, 0, none⟩)) (hvl : vs.length = t.length) (hvb : (vs.length : Int) ≤ 1000000) (hw : WdOK t kk)
    (hS : Sep w0 w [boxC g8 34 [I kk, I aa], accC v 38 eV vs, frzC eS vs t])
    (hR : ∀ w', Ext w0 w' → R (.tuple #[I (scoreT t kk), I 0]) w') :
    G Try.prog Try.f20 n [.c scT] R ρ w := by
  rw [sc_eq2]
  have t2 : ∀ (ρ' : Fr) (w' : World) (k : Nat), ρ' 7 = v → ρ' 8 = .pointer (some ⟨g8, 0, none⟩) → ρ' 9 = I ((t.getD 0 []).length : Nat) → ρ' 10 = I k → k = alkF (t.getD 0 []).length t → ¬ (t.length = 0 ∨ (t.getD 0 []).length < 2) → Sep w0 w' [boxC g8 34 [I kk, I aa], accC v 38 eV vs, frzC eS vs t] →
      G Try.prog Try.f20 n [.c scT2] R ρ' w' := fun ρ' w' k p7 p8 p9 p10 hk hn hS =>
    sc_t2 p7 p8 p9 p10 (by rw [hk]; exact alk_le _ _) hvl hvb hw hS fun w'' hx => by
      have := hR w'' hx
      unfold scoreT at this
      rw [if_neg hn, ← hk] at this
      exact this
  generalize scT2 = T at *
  unfold scC2 scT c20
  dsimp only
  by_cases h0 : t.length = 0
  · have es : scoreT t kk = 0 := by unfold scoreT; rw [if_pos (.inl h0)]
    rw [es] at hR
    (have fct := (And.intro @q7 @q8); repeat' (first | ((with_reducible apply G.a); exact rfl) | refine G.reg fun K hK => ?_ | (with_reducible (refine hK _ _ ?_); clear hK K) | (with_reducible (refine hK _ ?_); clear hK K; intro wd hxd; have hS := Sep.xx hxd) | ((first | have hk := hK | have hk := hK2); clear hk; simp (disch := first | exact dis | fail) only [push_cast, ↓reduceIte, Nat.reduceAdd, Nat.reduceLeDiff, Nat.reduceEqDiff, Nat.reduceLT, Int.reduceToNat, fct]) | ((first | refine brO_n ?_ ?_ | refine brQ_n ?_ ?_) <;> intro hb hc <;> first | (with_reducible exact False.elim hc) | (exfalso; omega) | (simp only [hb]; clear hb)) | ((first | refine zalc ?_ | ((with_reducible refine gBox ?_); refine zbox ?_)); intro gb wb hS) | ((with_reducible refine gSt ?_); refine zs2 ?_; intro wb hS) | (refine G.drt mixed fun K hK wd hxd => ?_; have hS := Sep.xx hxd) | with_reducible refine OT_leaf ?_ | (with_reducible (refine hK2 _ ?_); clear hK2 K2; intro wd hxd; have hS := Sep.xx hxd) | with_reducible refine OT_br fun K2 hK2 => ?_ | (refine hK2 _ _ ?_ ?_ <;> clear hK2 K2) | refine G.drg mixed fun K hK => ?_ | (refine G.cn ?_ ?_ <;> intro hc <;> first | (with_reducible exact False.elim hc) | (exfalso; omega) | skip))) <;> (try clear fct)
    all_goals
      (have fct := (And.intro @q7 @q8); (first | refine G.r1 ?_ | refine G.r2 ?_ | refine G.r3 ?_ | refine G.r0 ?_ | refine G.d0 ?_); (try simp (disch := first | exact dis | fail) only [push_cast, ↓reduceIte, Nat.reduceAdd, Nat.reduceLeDiff, Nat.reduceEqDiff, Nat.reduceLT, Int.reduceToNat, fct]); (try clear fct))
      exact hR _ (Sep.xt (by assumption))
  · have hz := Sep.frzAt hS (.t (.t .h)) (i := 0) (by omega)
    generalize hr0 : t.getD 0 [] = r0 at *
    by_cases h1 : (r0.length : Int) < 2
    · have es : scoreT t kk = 0 := by unfold scoreT; rw [if_pos (.inr (by rw [hr0]; omega))]
      rw [es] at hR
      (have fct := (And.intro @q7 @q8); repeat' (first | ((with_reducible apply G.a); exact rfl) | refine G.reg fun K hK => ?_ | (with_reducible (refine hK _ _ ?_); clear hK K) | (with_reducible (refine hK _ ?_); clear hK K; intro wd hxd; have hS := Sep.xx hxd) | ((first | have hk := hK | have hk := hK2); clear hk; simp (disch := first | exact dis | fail) only [push_cast, ↓reduceIte, Nat.reduceAdd, Nat.reduceLeDiff, Nat.reduceEqDiff, Nat.reduceLT, Int.reduceToNat, fct]) | ((first | refine brO_n ?_ ?_ | refine brQ_n ?_ ?_) <;> intro hb hc <;> first | (with_reducible exact False.elim hc) | (exfalso; omega) | (simp only [hb]; clear hb)) | ((first | refine zalc ?_ | ((with_reducible refine gBox ?_); refine zbox ?_)); intro gb wb hS) | ((with_reducible refine gSt ?_); refine zs2 ?_; intro wb hS) | (refine G.drt mixed fun K hK wd hxd => ?_; have hS := Sep.xx hxd) | with_reducible refine OT_leaf ?_ | (with_reducible (refine hK2 _ ?_); clear hK2 K2; intro wd hxd; have hS := Sep.xx hxd) | with_reducible refine OT_br fun K2 hK2 => ?_ | (refine hK2 _ _ ?_ ?_ <;> clear hK2 K2) | refine G.drg mixed fun K hK => ?_ | (refine G.cn ?_ ?_ <;> intro hc <;> first | (with_reducible exact False.elim hc) | (exfalso; omega) | skip))) <;> (try clear fct)
      all_goals
        (have fct := (And.intro @q7 @q8); (first | refine G.r1 ?_ | refine G.r2 ?_ | refine G.r3 ?_ | refine G.r0 ?_ | refine G.d0 ?_); (try simp (disch := first | exact dis | fail) only [push_cast, ↓reduceIte, Nat.reduceAdd, Nat.reduceLeDiff, Nat.reduceEqDiff, Nat.reduceLT, Int.reduceToNat, fct]); (try clear fct))
        exact hR _ (Sep.xt (by assumption))
    · (have fct := (And.intro @q7 @q8); repeat' (first | ((with_reducible apply G.a); exact rfl) | refine G.reg fun K hK => ?_ | (with_reducible (refine hK _ _ ?_); clear hK K) | (with_reducible (refine hK _ ?_); clear hK K; intro wd hxd; have hS := Sep.xx hxd) | ((first | have hk := hK | have hk := hK2); clear hk; simp (disch := first | exact dis | fail) only [push_cast, ↓reduceIte, Nat.reduceAdd, Nat.reduceLeDiff, Nat.reduceEqDiff, Nat.reduceLT, Int.reduceToNat, fct]) | ((first | refine brO_n ?_ ?_ | refine brQ_n ?_ ?_) <;> intro hb hc <;> first | (with_reducible exact False.elim hc) | (exfalso; omega) | (simp only [hb]; clear hb)) | ((first | refine zalc ?_ | ((with_reducible refine gBox ?_); refine zbox ?_)); intro gb wb hS) | ((with_reducible refine gSt ?_); refine zs2 ?_; intro wb hS) | (refine G.drt mixed fun K hK wd hxd => ?_; have hS := Sep.xx hxd) | with_reducible refine OT_leaf ?_ | (with_reducible (refine hK2 _ ?_); clear hK2 K2; intro wd hxd; have hS := Sep.xx hxd) | with_reducible refine OT_br fun K2 hK2 => ?_ | (refine hK2 _ _ ?_ ?_ <;> clear hK2 K2) | refine G.drg mixed fun K hK => ?_ | (refine G.cn ?_ ?_ <;> intro hc <;> first | (with_reducible exact False.elim hc) | (exfalso; omega) | skip))) <;> (try clear fct)
      refine G.loop (fun r w' => ∃ k : Nat, k ≤ t.length ∧ alkF r0.length t = k + alkF r0.length (t.drop k) ∧ r 7 = v ∧ r 8 = .pointer (some ⟨g8, 0, none⟩) ∧ r 9 = I r0.length ∧ r 10 = I k ∧ r 40 = v ∧ r 41 = I vs.length ∧ r 42 = I k ∧
        Sep w0 w' [boxC g8 34 [I kk, I aa], accC v 38 eV vs, frzC eS vs t]) (fun r _ => t.length - toN (r 42)) ?_ ?_
      · have fct := (And.intro @q7 @q8); exact ⟨0, Nat.zero_le _, by simp, by exact sf, by exact sf, by exact sf, by exact sf, by exact sf, by exact sf, by exact sf, hS⟩
      · clear hS hz
        rintro u wl ⟨k, hk, ha, q7, q8, q9, q10, q40, q41, q42, hS⟩ ih
        have hm : toN (u 42) = k := by rw [q42]; simp [toN]
        by_cases hlt : (k : Int) < vs.length
        · have hrk := Sep.frzAt hS (.t (.t .h)) (i := k) (by omega)
          by_cases he : (t.getD k []).length = r0.length
          · have hs := alk_at (t := t) (k := k) (by omega) he
            have he2 : (((t.getD k []).length : Nat) : Int) = (r0.length : Nat) := by rw [he]
            (have fct := (And.intro @q7 (And.intro @q8 (And.intro @q9 (And.intro @q10 (And.intro @q40 (And.intro @q41 (And.intro @q42 @he2))))))); repeat' (first | ((with_reducible apply G.a); exact rfl) | refine G.reg fun K hK => ?_ | (with_reducible (refine hK _ _ ?_); clear hK K) | (with_reducible (refine hK _ ?_); clear hK K; intro wd hxd; have hS := Sep.xx hxd) | ((first | have hk := hK | have hk := hK2); clear hk; simp (disch := first | exact dis | fail) only [push_cast, ↓reduceIte, Nat.reduceAdd, Nat.reduceLeDiff, Nat.reduceEqDiff, Nat.reduceLT, Int.reduceToNat, fct]) | ((first | refine brO_n ?_ ?_ | refine brQ_n ?_ ?_) <;> intro hb hc <;> first | (with_reducible exact False.elim hc) | (exfalso; omega) | (simp only [hb]; clear hb)) | ((first | refine zalc ?_ | ((with_reducible refine gBox ?_); refine zbox ?_)); intro gb wb hS) | ((with_reducible refine gSt ?_); refine zs2 ?_; intro wb hS) | (refine G.drt mixed fun K hK wd hxd => ?_; have hS := Sep.xx hxd) | with_reducible refine OT_leaf ?_ | (with_reducible (refine hK2 _ ?_); clear hK2 K2; intro wd hxd; have hS := Sep.xx hxd) | with_reducible refine OT_br fun K2 hK2 => ?_ | (refine hK2 _ _ ?_ ?_ <;> clear hK2 K2) | refine G.drg mixed fun K hK => ?_ | (refine G.cn ?_ ?_ <;> intro hc <;> first | (with_reducible exact False.elim hc) | (exfalso; omega) | skip))) <;> (try clear fct)
            all_goals
              have fct := (And.intro @q7 (And.intro @q8 (And.intro @q9 (And.intro @q10 (And.intro @q40 (And.intro @q41 @q42)))))); refine ih _ _ ⟨k + 1, by omega, by omega, by exact sf, by exact sf, by exact sf, by exact sf, by exact sf, by exact sf, by exact sf, hS⟩ ?_
              rw [hm]; simp only [push_cast, ↓reduceIte, Nat.reduceAdd, Nat.reduceLeDiff, Nat.reduceEqDiff, Nat.reduceLT, Int.reduceToNat, toN_i, q7, q8, q9, q10, q40, q41, q42]; omega
          · have hs := alk_no (t := t) (k := k) (by omega) he
            (have fct := (And.intro @q7 (And.intro @q8 (And.intro @q9 (And.intro @q10 (And.intro @q40 (And.intro @q41 @q42)))))); repeat' (first | ((with_reducible apply G.a); exact rfl) | refine G.reg fun K hK => ?_ | (with_reducible (refine hK _ _ ?_); clear hK K) | (with_reducible (refine hK _ ?_); clear hK K; intro wd hxd; have hS := Sep.xx hxd) | ((first | have hk := hK | have hk := hK2); clear hk; simp (disch := first | exact dis | fail) only [push_cast, ↓reduceIte, Nat.reduceAdd, Nat.reduceLeDiff, Nat.reduceEqDiff, Nat.reduceLT, Int.reduceToNat, fct]) | ((first | refine brO_n ?_ ?_ | refine brQ_n ?_ ?_) <;> intro hb hc <;> first | (with_reducible exact False.elim hc) | (exfalso; omega) | (simp only [hb]; clear hb)) | ((first | refine zalc ?_ | ((with_reducible refine gBox ?_); refine zbox ?_)); intro gb wb hS) | ((with_reducible refine gSt ?_); refine zs2 ?_; intro wb hS) | (refine G.drt mixed fun K hK wd hxd => ?_; have hS := Sep.xx hxd) | with_reducible refine OT_leaf ?_ | (with_reducible (refine hK2 _ ?_); clear hK2 K2; intro wd hxd; have hS := Sep.xx hxd) | with_reducible refine OT_br fun K2 hK2 => ?_ | (refine hK2 _ _ ?_ ?_ <;> clear hK2 K2) | refine G.drg mixed fun K hK => ?_ | (refine G.cn ?_ ?_ <;> intro hc <;> first | (with_reducible exact False.elim hc) | (exfalso; omega) | skip))) <;> (try clear fct)
            all_goals
              exact t2 _ _ k (by simp only [push_cast, ↓reduceIte, Nat.reduceAdd, Nat.reduceLeDiff, Nat.reduceEqDiff, Nat.reduceLT, Int.reduceToNat, q7, q8, q9, q10, q40, q41, q42] <;> rfl) (by simp only [push_cast, ↓reduceIte, Nat.reduceAdd, Nat.reduceLeDiff, Nat.reduceEqDiff, Nat.reduceLT, Int.reduceToNat, q7, q8, q9, q10, q40, q41, q42] <;> rfl) (by simp only [push_cast, ↓reduceIte, Nat.reduceAdd, Nat.reduceLeDiff, Nat.reduceEqDiff, Nat.reduceLT, Int.reduceToNat, q7, q8, q9, q10, q40, q41, q42] <;> rfl) (by simp only [push_cast, ↓reduceIte, Nat.reduceAdd, Nat.reduceLeDiff, Nat.reduceEqDiff, Nat.reduceLT, Int.reduceToNat, q7, q8, q9, q10, q40, q41, q42] <;> rfl) (by omega) (by omega) hS
        · have hs := alk_end (w := r0.length) (t := t) (k := k) (by omega)
          (have fct := (And.intro @q7 (And.intro @q8 (And.intro @q9 (And.intro @q10 (And.intro @q40 (And.intro @q41 @q42)))))); repeat' (first | ((with_reducible apply G.a); exact rfl) | refine G.reg fun K hK => ?_ | (with_reducible (refine hK _ _ ?_); clear hK K) | (with_reducible (refine hK _ ?_); clear hK K; intro wd hxd; have hS := Sep.xx hxd) | ((first | have hk := hK | have hk := hK2); clear hk; simp (disch := first | exact dis | fail) only [push_cast, ↓reduceIte, Nat.reduceAdd, Nat.reduceLeDiff, Nat.reduceEqDiff, Nat.reduceLT, Int.reduceToNat, fct]) | ((first | refine brO_n ?_ ?_ | refine brQ_n ?_ ?_) <;> intro hb hc <;> first | (with_reducible exact False.elim hc) | (exfalso; omega) | (simp only [hb]; clear hb)) | ((first | refine zalc ?_ | ((with_reducible refine gBox ?_); refine zbox ?_)); intro gb wb hS) | ((with_reducible refine gSt ?_); refine zs2 ?_; intro wb hS) | (refine G.drt mixed fun K hK wd hxd => ?_; have hS := Sep.xx hxd) | with_reducible refine OT_leaf ?_ | (with_reducible (refine hK2 _ ?_); clear hK2 K2; intro wd hxd; have hS := Sep.xx hxd) | with_reducible refine OT_br fun K2 hK2 => ?_ | (refine hK2 _ _ ?_ ?_ <;> clear hK2 K2) | refine G.drg mixed fun K hK => ?_ | (refine G.cn ?_ ?_ <;> intro hc <;> first | (with_reducible exact False.elim hc) | (exfalso; omega) | skip))) <;> (try clear fct)
          all_goals
            exact t2 _ _ k (by simp only [push_cast, ↓reduceIte, Nat.reduceAdd, Nat.reduceLeDiff, Nat.reduceEqDiff, Nat.reduceLT, Int.reduceToNat, q7, q8, q9, q10, q40, q41, q42] <;> rfl) (by simp only [push_cast, ↓reduceIte, Nat.reduceAdd, Nat.reduceLeDiff, Nat.reduceEqDiff, Nat.reduceLT, Int.reduceToNat, q7, q8, q9, q10, q40, q41, q42] <;> rfl) (by simp only [push_cast, ↓reduceIte, Nat.reduceAdd, Nat.reduceLeDiff, Nat.reduceEqDiff, Nat.reduceLT, Int.reduceToNat, q7, q8, q9, q10, q40, q41, q42] <;> rfl) (by simp only [push_cast, ↓reduceIte, Nat.reduceAdd, Nat.reduceLeDiff, Nat.reduceEqDiff, Nat.reduceLT, Int.reduceToNat, q7, q8, q9, q10, q40, q41, q42] <;> rfl) (by omega) (by omega) hS
end
def scoR (d : Dl) (s : Str) : Int := if rightD d = true then scoreM d s else 0
theorem scp_bd (d : Dl) (s : Str) : ((parM d wideL s).rs.map Prod.fst).length ≤ s.length + 1 := by rw [List.length_map]; exact parM_len _ _ _
set_option maxHeartbeats 1000000 in
theorem score_spec (d : Dl) (s : Str) (w : World) (hl : s.length ≤ 100000) : Pu Try.prog 20 #[(.agg #[U d.dl, U d.q, I d.e]), S s] w (.tuple #[I (scoR d s), I (if rightD d = true then 0 else 1)]) := by
  refine in20 ?_
  have hS := Sep.start w
  cases hr : rightD d
  · have es : scoR d s = 0 := by unfold scoR; rw [hr]; rfl
    rw [es]
    (have fct := @hr; repeat' (first | ((with_reducible apply G.a); exact rfl) | refine G.reg fun K hK => ?_ | (with_reducible (refine hK _ _ ?_); clear hK K) | (with_reducible (refine hK _ ?_); clear hK K; intro wd hxd; have hS := Sep.xx hxd) | ((first | have hk := hK | have hk := hK2); clear hk; simp (disch := first | exact dis | fail) only [push_cast, ↓reduceIte, Nat.reduceAdd, Nat.reduceLeDiff, Nat.reduceEqDiff, Nat.reduceLT, Int.reduceToNat, fct]) | ((first | refine brO_n ?_ ?_ | refine brQ_n ?_ ?_) <;> intro hb hc <;> first | (with_reducible exact False.elim hc) | (exfalso; omega) | (simp only [hb]; clear hb)) | ((first | refine zalc ?_ | ((with_reducible refine gBox ?_); refine zbox ?_)); intro gb wb hS) | ((with_reducible refine gSt ?_); refine zs2 ?_; intro wb hS) | (refine zcp 30 (checkD_spec d _) ?_; intro wb hS) | (refine G.drt mixed fun K hK wd hxd => ?_; have hS := Sep.xx hxd) | with_reducible refine OT_leaf ?_ | (with_reducible (refine hK2 _ ?_); clear hK2 K2; intro wd hxd; have hS := Sep.xx hxd) | with_reducible refine OT_br fun K2 hK2 => ?_ | (refine hK2 _ _ ?_ ?_ <;> clear hK2 K2) | refine G.drg mixed fun K hK => ?_ | (refine G.cn ?_ ?_ <;> intro hc <;> first | (with_reducible exact False.elim hc) | (exfalso; omega) | skip))) <;> (try clear fct)
    all_goals
      (first | refine G.r1 ?_ | refine G.r2 ?_ | refine G.r3 ?_ | refine G.r0 ?_ | refine G.d0 ?_); (try simp (disch := first | exact dis | fail) only [push_cast, ↓reduceIte, Nat.reduceAdd, Nat.reduceLeDiff, Nat.reduceEqDiff, Nat.reduceLT, Int.reduceToNat, fct])
      exact Sep.xt (by assumption)
  · have es : scoR d s = scoreM d s := by unfold scoR; rw [hr]; rfl
    rw [es]
    have hp := fun w => parse_spec2 d wideL s w (by omega) (R := parM d wideL s) (walk_wide6 hr s)
    have hbd := scp_bd d s
    have hwd := par_wd hr s
    unfold scoreM
    rw [sc_eq]
    generalize hts : (parM d wideL s).rs.map Prod.fst = t at *
    have hrl : (parM d wideL s).rs.length = t.length := by rw [← hts, List.length_map]
    have tl : ∀ (n : Nat) (ρ' : Fr) (w' : World) (v : Value) (vs : List Value) (g8 : Nat), ρ' 7 = v → ρ' 8 = .pointer (some ⟨g8, 0, none⟩) → vs.length = (parM d wideL s).rs.length → Sep w w' [boxC g8 34 [I (parM d wideL s).k, I (parM d wideL s).a], accC v 38 eV vs, frzC eS vs t] →
        G Try.prog Try.f20 n [.c scT] (fun v w' => v = .tuple #[I (scoreT t (parM d wideL s).k), I (if true = true then 0 else 1)] ∧ Ext w w') ρ' w' := fun n ρ' w' v vs g8 p7 p8 hvl hS =>
      sc_t p7 p8 (by omega) (by omega) hwd hS fun w'' hx => ⟨rfl, hx⟩
    generalize scT = T at *
    unfold scC c20
    dsimp only
    generalize parM d wideL s = R at *
    (have fct := @hr; repeat' (first | ((with_reducible apply G.a); exact rfl) | refine G.reg fun K hK => ?_ | (with_reducible (refine hK _ _ ?_); clear hK K) | (with_reducible (refine hK _ ?_); clear hK K; intro wd hxd; have hS := Sep.xx hxd) | ((first | have hk := hK | have hk := hK2); clear hk; simp (disch := first | exact dis | fail) only [push_cast, ↓reduceIte, Nat.reduceAdd, Nat.reduceLeDiff, Nat.reduceEqDiff, Nat.reduceLT, Int.reduceToNat, fct]) | ((first | refine brO_n ?_ ?_ | refine brQ_n ?_ ?_) <;> intro hb hc <;> first | (with_reducible exact False.elim hc) | (exfalso; omega) | (simp only [hb]; clear hb)) | ((first | refine zalc ?_ | ((with_reducible refine gBox ?_); refine zbox ?_)); intro gb wb hS) | ((with_reducible refine gSt ?_); refine zs2 ?_; intro wb hS) | (refine zcp 30 (checkD_spec d _) ?_; intro wb hS) | (refine zcp 31 (wide26_spec _) ?_; intro wb hS) | (refine zco 16 (hp _) ?_; rintro vb wb ⟨v, vs, rfl, hvl, hS2⟩; have hS := hS2.ap; simp only [apps] at hS) | (with_reducible refine And.intro (a := OT _ _ _ _ _) (b := OT _ _ _ _ _) ?_ ?_) | (refine G.drt mixed fun K hK wd hxd => ?_; have hS := Sep.xx hxd) | with_reducible refine OT_leaf ?_ | (with_reducible (refine hK2 _ ?_); clear hK2 K2; intro wd hxd; have hS := Sep.xx hxd) | with_reducible refine OT_br fun K2 hK2 => ?_ | (refine hK2 _ _ ?_ ?_ <;> clear hK2 K2) | refine G.drg mixed fun K hK => ?_ | (refine G.cn ?_ ?_ <;> intro hc <;> first | (with_reducible exact False.elim hc) | (exfalso; omega) | skip))) <;> (try clear fct)
    all_goals
      exact tl _ _ _ v vs _ (by simp only [push_cast, ↓reduceIte, Nat.reduceAdd, Nat.reduceLeDiff, Nat.reduceEqDiff, Nat.reduceLT, Int.reduceToNat] <;> rfl) (by simp only [push_cast, ↓reduceIte, Nat.reduceAdd, Nat.reduceLeDiff, Nat.reduceEqDiff, Nat.reduceLT, Int.reduceToNat] <;> rfl) hvl (Sep.sub hS (by repeat first | exact Sub.rfl' | exact Sub.nil0 | (refine Sub.c (by repeat constructor) ?_) | refine Sub.skip ?_))
end Go.Proofs.Ytigifbjdmdcboaa
