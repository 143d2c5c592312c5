/- Texts of the proof, joined. -/
import Derived.Test.YtjajihaeoolefaaDooryV06
namespace Go.Proofs.YtjajihaeoolefaaDoor
set_option linter.unusedSimpArgs false
set_option linter.unusedVariables false
attribute [local irreducible] SemK UnitK StK AlcK BslK CallK CallV Instr.box Builtin.append_ Instr.makeSlice Instr.makeMap Instr.lookup Instr.mapUpdate Instr.sliceAt convert
open Go.RowKit
def WkS (w0 w : World) (gw g : Nat) (d : Dl) (l : Lm) (q st : Int) (m : Mk) (M : List Chk) : Prop := ∃ fv rv, Sep w0 w (boxC gw 130 [U d.dl, U d.q, I d.e, .pointer (some ⟨g, 0, none⟩), I q, I st] :: boxC g 142 [I l.F, I l.N, I l.R, .bool l.U, fv, rv, I m.bg, I m.ct, I m.wd, I 0] :: accC fv 5 eU m.fl :: accC rv 9 eS m.rc :: M)
def stepW (d : Dl) (l : Lm) (q st : Int) (m : Mk) (b : UInt8) : Except Int (Int × Int × Mk × Option (List Str)) :=
  if (stepM q b.toNat).2 = false then .error 3 else match stepR d l st m b with
    | .error k => .error k
    | .ok x => .ok ((stepM q b.toNat).1, x)
theorem wrun_cons (d : Dl) (l : Lm) (q st : Int) (m : Mk) (p : Nat) (b : UInt8) (t : Str) : wrun d l q st m p (b :: t) = match stepW d l q st m b with
    | .error k => ⟨[], k, p⟩
    | .ok x => (wrun d l x.1 x.2.1 x.2.2.1 (p + 1) t).pre (oneR x.2.2.2 p) := by
  unfold stepW
  rw [wrun]
  cases (stepM q b.toNat).2
  · rfl
  · simp only [Bool.true_eq_false, if_false]
    cases stepR d l st m b <;> rfl
def endW (l : Lm) (q st : Int) (m : Mk) : Except Int (Option (List Str)) := if q ≠ 0 then .error 12 else endR l st m
theorem wrun_nil (d : Dl) (l : Lm) (q st : Int) (m : Mk) (p : Nat) : wrun d l q st m p [] = match endW l q st m with
    | .error k => ⟨[], k, p⟩
    | .ok r => ⟨oneR r p, 0, 0⟩ := by
  unfold endW
  rw [wrun]
  split
  · rfl
  · cases endR l st m <;> rfl
theorem stepW_err {d : Dl} {l : Lm} {q st : Int} {m : Mk} {b : UInt8} {k : Int} (h : stepW d l q st m b = .error k) : 0 < k := by
  unfold stepW at h
  split at h
  · injection h with h; omega
  · split at h
    · rename_i h2; injection h with h; subst h; exact step_err h2
    · simp at h
theorem endW_err {l : Lm} {q st : Int} {m : Mk} {k : Int} (h : endW l q st m = .error k) : 0 < k := by
  unfold endW at h
  split at h
  · injection h with h; omega
  · exact end_err h
theorem stepW_bd {d : Dl} {l : Lm} {q st : Int} {m : Mk} {b : UInt8} {n : Nat} {x : Int × Int × Mk × Option (List Str)} (hb : bdM n m) (h : stepW d l q st m b = .ok x) : bdM (n + 3) x.2.2.1 := by
  unfold stepW at h
  split at h
  · simp at h
  · split at h
    · simp at h
    · rename_i y h2
      injection h with h; subst h
      unfold stepR at h2
      split at h2
      · simp at h2
      · split at h2
        · simp at h2
        · rename_i z h3
          injection h2 with h2; subst h2
          exact take_bd hb h3
def SRes (w0 w' : World) (gw g : Nat) (d : Dl) (l : Lm) (M : List Chk) (res : Value) : Except Int (Int × Int × Mk × Option (List Str)) → Prop
  | .error k => res = (.tuple #[.slice none 0 0, .bool false, I k]) ∧ Sep w0 w' M
  | .ok (q', st', m', none) => res = (.tuple #[.slice none 0 0, .bool false, I 0]) ∧ WkS w0 w' gw g d l q' st' m' M
  | .ok (q', st', m', some r) => ∃ rv, res = .tuple #[rv, .bool true, I 0] ∧ WkS w0 w' gw g d l q' st' m' (accC rv 9 eS r :: M)
def c55 : MC := (.seq (.reg [qq 4 (.mv (.const (.slice none 0 0))), qq 5 (.mv (kb false)), qq 6 (.mv (ki 0))]) (.seq (.reg [qm 13 0, qq 14 (.nck (.tmp 13)), qq 15 (.fad 4 (.tmp 14)), qq 16 (.ld none (.tmp 15)), qm 17 1, qq 18 (.call 67 [(.tmp 16), (.tmp 17)]), qm 12 18, qq 19 (.ext 0 (.tmp 12)), qq 20 (.ext 1 (.tmp 12)), qm 7 19, qm 8 20]) (.seq (.seq (.reg [qm 21 8, qq 22 (.un .not (.tmp 21))]) (.cond (.tmp 22) (.seq (.reg [qq 4 (.mv (.const (.slice none 0 0))), qq 5 (.mv (kb false)), qq 6 (.mv (ki 3))]) .ret) .skip)) (.seq (.reg [qm 23 0, qm 24 7, qq 25 (.nck (.tmp 23)), qq 26 (.fad 4 (.tmp 25)), qn (.st 1 (.tmp 26) (.tmp 24))]) (.seq (.drg [qm 28 0, qq 29 (.nck (.tmp 28)), qq 30 (.fad 0 (.tmp 29)), qq 31 (.ld (.some 3) (.tmp 30)), qm 32 0, qq 33 (.nck (.tmp 32)), qq 34 (.fad 5 (.tmp 33)), qq 35 (.ld none (.tmp 34)), qm 36 1, qq 37 (.call 68 [(.tmp 31), (.tmp 35), (.tmp 36)]), qm 27 37, qq 38 (.ext 0 (.tmp 27)), qq 39 (.ext 1 (.tmp 27)), qq 40 (.ext 2 (.tmp 27)), qq 9 (.alc 147 [(.bool false), (.bool false), (.bool false), (.bool false), (.bool false), (.int .u8 0)]), qn (.st 6 (.tmp 9) (.tmp 38)), qm 10 39, qm 11 40] (.some (.br [qm 28 0, qq 29 (.nck (.tmp 28)), qq 30 (.fad 0 (.tmp 29)), qm 32 0, qq 33 (.nck (.tmp 32)), qq 34 (.fad 5 (.tmp 33)), qm 36 1] (.br [qq 31 (.ld (.some 3) (.tmp 30))] (.br [qq 35 (.ld none (.tmp 34))] (.leaf [qq 37 (.call 68 [(.tmp 31), (.tmp 35), (.tmp 36)]), qm 27 37, qq 38 (.ext 0 (.tmp 27)), qq 39 (.ext 1 (.tmp 27)), qq 40 (.ext 2 (.tmp 27)), qq 9 (.alc 147 [(.bool false), (.bool false), (.bool false), (.bool false), (.bool false), (.int .u8 0)]), qn (.st 6 (.tmp 9) (.tmp 38)), qm 10 39, qm 11 40]) (.leaf [qq 9 (.alc 147 [(.bool false), (.bool false), (.bool false), (.bool false), (.bool false), (.int .u8 0)]), qq 37 (.call 68 [(.tmp 31), (.tmp 35), (.tmp 36)]), qm 27 37, qq 38 (.ext 0 (.tmp 27)), qq 39 (.ext 1 (.tmp 27)), qq 40 (.ext 2 (.tmp 27)), qn (.st 6 (.tmp 9) (.tmp 38)), qm 10 39, qm 11 40])) (.leaf [qq 9 (.alc 147 [(.bool false), (.bool false), (.bool false), (.bool false), (.bool false), (.int .u8 0)]), qq 35 (.ld none (.tmp 34)), qq 37 (.call 68 [(.tmp 31), (.tmp 35), (.tmp 36)]), qm 27 37, qq 38 (.ext 0 (.tmp 27)), qq 39 (.ext 1 (.tmp 27)), qq 40 (.ext 2 (.tmp 27)), qn (.st 6 (.tmp 9) (.tmp 38)), qm 10 39, qm 11 40])) (.br [] (.br [qq 35 (.ld none (.tmp 34))] (.br [qq 31 (.ld (.some 3) (.tmp 30))] (.leaf [qq 37 (.call 68 [(.tmp 31), (.tmp 35), (.tmp 36)]), qm 27 37, qq 38 (.ext 0 (.tmp 27)), qq 39 (.ext 1 (.tmp 27)), qq 40 (.ext 2 (.tmp 27)), qq 9 (.alc 147 [(.bool false), (.bool false), (.bool false), (.bool false), (.bool false), (.int .u8 0)]), qn (.st 6 (.tmp 9) (.tmp 38)), qm 10 39, qm 11 40]) (.leaf [qq 9 (.alc 147 [(.bool false), (.bool false), (.bool false), (.bool false), (.bool false), (.int .u8 0)]), qq 37 (.call 68 [(.tmp 31), (.tmp 35), (.tmp 36)]), qm 27 37, qq 38 (.ext 0 (.tmp 27)), qq 39 (.ext 1 (.tmp 27)), qq 40 (.ext 2 (.tmp 27)), qn (.st 6 (.tmp 9) (.tmp 38)), qm 10 39, qm 11 40])) (.leaf [qq 9 (.alc 147 [(.bool false), (.bool false), (.bool false), (.bool false), (.bool false), (.int .u8 0)]), qq 31 (.ld (.some 3) (.tmp 30)), qq 37 (.call 68 [(.tmp 31), (.tmp 35), (.tmp 36)]), qm 27 37, qq 38 (.ext 0 (.tmp 27)), qq 39 (.ext 1 (.tmp 27)), qq 40 (.ext 2 (.tmp 27)), qn (.st 6 (.tmp 9) (.tmp 38)), qm 10 39, qm 11 40])) (.br [qq 9 (.alc 147 [(.bool false), (.bool false), (.bool false), (.bool false), (.bool false), (.int .u8 0)])] (.leaf [qq 31 (.ld (.some 3) (.tmp 30)), qq 35 (.ld none (.tmp 34)), qq 37 (.call 68 [(.tmp 31), (.tmp 35), (.tmp 36)]), qm 27 37, qq 38 (.ext 0 (.tmp 27)), qq 39 (.ext 1 (.tmp 27)), qq 40 (.ext 2 (.tmp 27)), qn (.st 6 (.tmp 9) (.tmp 38)), qm 10 39, qm 11 40]) (.leaf [qq 35 (.ld none (.tmp 34)), qq 31 (.ld (.some 3) (.tmp 30)), qq 37 (.call 68 [(.tmp 31), (.tmp 35), (.tmp 36)]), qm 27 37, qq 38 (.ext 0 (.tmp 27)), qq 39 (.ext 1 (.tmp 27)), qq 40 (.ext 2 (.tmp 27)), qn (.st 6 (.tmp 9) (.tmp 38)), qm 10 39, qm 11 40])))))) (.seq (.seq (.reg [qm 41 11, qq 42 (.bin .neq (.tmp 41) (ki 0))]) (.cond (.tmp 42) (.seq (.reg [qm 43 11, qq 4 (.mv (.const (.slice none 0 0))), qq 5 (.mv (kb false)), qm 6 43]) .ret) .skip)) (.seq (.reg [qm 44 0, qm 45 10, qq 46 (.nck (.tmp 44)), qq 47 (.fad 5 (.tmp 46)), qn (.st 1 (.tmp 47) (.tmp 45))]) (.seq (.drg [qm 48 0, qq 49 (.nck (.tmp 48)), qq 50 (.fad 3 (.tmp 49)), qq 51 (.ld none (.tmp 50)), qq 52 (.ld (.some 6) (.tmp 9)), qq 53 (.call 69 [(.tmp 51), (.tmp 52)]), qq 54 (.ext 0 (.tmp 53)), qq 55 (.ext 1 (.tmp 53)), qq 56 (.ext 2 (.tmp 53)), qm 4 54, qm 5 55, qm 6 56] (.some (.br [qm 48 0, qq 49 (.nck (.tmp 48)), qq 50 (.fad 3 (.tmp 49))] (.leaf [qq 51 (.ld none (.tmp 50)), qq 52 (.ld (.some 6) (.tmp 9)), qq 53 (.call 69 [(.tmp 51), (.tmp 52)]), qq 54 (.ext 0 (.tmp 53)), qq 55 (.ext 1 (.tmp 53)), qq 56 (.ext 2 (.tmp 53)), qm 4 54, qm 5 55, qm 6 56]) (.leaf [qq 52 (.ld (.some 6) (.tmp 9)), qq 51 (.ld none (.tmp 50)), qq 53 (.call 69 [(.tmp 51), (.tmp 52)]), qq 54 (.ext 0 (.tmp 53)), qq 55 (.ext 1 (.tmp 53)), qq 56 (.ext 2 (.tmp 53)), qm 4 54, qm 5 55, qm 6 56])))) .ret))))))))
theorem k55 : conv Tryd.prog 57 (Tryd.f55.body.getD .skip) = c55 := by kernel_rfl
theorem in55 {a0 a1 : Value} {w : World} {R : Value → World → Prop} (h : G Tryd.prog Tryd.f55 57 [.c c55] R (frL 0 [a0, a1]) w) : Ret Tryd.prog 55 #[a0, a1] w R := G.enter (args := [a0, a1]) Tryd.func55 (c := Tryd.f55.body.getD .skip) (by kernel_rfl) (by kernel_rfl) (by simp) k55 h
set_option maxHeartbeats 1000000 in
theorem wstep_spec {gw g : Nat} {d : Dl} {l : Lm} {q st : Int} {m : Mk} {b : UInt8} {M : List Chk} {w w0 : World} (hM : WkS w0 w gw g d l q st m M) (hb : bdM 900000000 m) :
    Ret Tryd.prog 55 #[.pointer (some ⟨gw, 0, none⟩), U b.toNat] w fun res w' => SRes w0 w' gw g d l M res (stepW d l q st m b) := by
  refine in55 ?_
  obtain ⟨fv, rv, hS⟩ := hM
  unfold stepW
  cases hu : (stepM q b.toNat).2
  · rw [if_pos rfl]
    (have fct := @hu; repeat' (first | ((with_reducible apply G.a); exact rfl) | refine G.reg fun K hK => ?_ | (with_reducible (refine hK _ _ ?_); clear hK K) | (with_reducible (refine hK _ ?_); clear hK K; intro wd hxd; have hS := Sep.xx hxd) | ((first | have hk := hK | have hk := hK2); clear hk; simp (disch := first | exact dis | fail) only [push_cast, ↓reduceIte, Nat.reduceAdd, Nat.reduceLeDiff, Nat.reduceEqDiff, Nat.reduceLT, Int.reduceToNat, fct]) | (refine zalc ?_; intro gb wb hS) | ((with_reducible refine gSt ?_); refine zs2 ?_; intro wb hS) | (refine zcp 67 (step_spec _ _ _) ?_; intro wb hS) | (refine G.drt mixed fun K hK wd hxd => ?_; have hS := Sep.xx hxd) | with_reducible refine OT_leaf ?_ | (with_reducible (refine hK2 _ ?_); clear hK2 K2; intro wd hxd; have hS := Sep.xx hxd) | with_reducible refine OT_br fun K2 hK2 => ?_ | (refine hK2 _ _ ?_ ?_ <;> clear hK2 K2) | refine G.drg mixed fun K hK => ?_ | (refine G.cn ?_ ?_ <;> intro hc <;> first | (with_reducible exact False.elim hc) | (exfalso; omega) | skip))) <;> (try clear fct)
    all_goals
      (first | refine G.r1 ?_ | refine G.r2 ?_ | refine G.r3 ?_ | refine G.r0 ?_ | refine G.d0 ?_); (try simp (disch := first | exact dis | fail) only [push_cast, ↓reduceIte, Nat.reduceAdd, Nat.reduceLeDiff, Nat.reduceEqDiff, Nat.reduceLT, Int.reduceToNat, fct])
      exact ⟨rfl, Sep.sub hS (by repeat first | exact Sub.rfl' | (refine Sub.c (by repeat constructor) ?_) | refine Sub.skip ?_)⟩
  · rw [if_neg (by simp)]
    unfold stepR
    by_cases hs : (scM d st b).2.2 = 0
    · rw [if_neg (by omega)]
      cases ht : takeM l m (scM d st b).1 with
      | error k =>
        have hk := take_err ht
        (have fct := (And.intro @hu @hs); repeat' (first | ((with_reducible apply G.a); exact rfl) | refine G.reg fun K hK => ?_ | (with_reducible (refine hK _ _ ?_); clear hK K) | (with_reducible (refine hK _ ?_); clear hK K; intro wd hxd; have hS := Sep.xx hxd) | ((first | have hk := hK | have hk := hK2); clear hk; simp (disch := first | exact dis | fail) only [push_cast, ↓reduceIte, Nat.reduceAdd, Nat.reduceLeDiff, Nat.reduceEqDiff, Nat.reduceLT, Int.reduceToNat, fct]) | (refine zalc ?_; intro gb wb hS) | ((with_reducible refine gSt ?_); refine zs2 ?_; intro wb hS) | (refine zcp 67 (step_spec _ _ _) ?_; intro wb hS) | (refine zcp 68 (scStep_spec d st b _) ?_; intro wb hS) | ((with_reducible (show CallK _ 69 _ _ _ _ _)); have hx := MkS.of (l := l) (m := m) hS (by repeat constructor) (by repeat constructor) (by repeat constructor); refine zco 69 (mtake_spec hx hb (sc_ev d st b)) ?_; clear hx; intro vb wb hG; rw [ht] at hG; obtain ⟨rfl, hS⟩ := hG) | (refine G.drt mixed fun K hK wd hxd => ?_; have hS := Sep.xx hxd) | with_reducible refine OT_leaf ?_ | (with_reducible (refine hK2 _ ?_); clear hK2 K2; intro wd hxd; have hS := Sep.xx hxd) | with_reducible refine OT_br fun K2 hK2 => ?_ | (refine hK2 _ _ ?_ ?_ <;> clear hK2 K2) | refine G.drg mixed fun K hK => ?_ | (refine G.cn ?_ ?_ <;> intro hc <;> first | (with_reducible exact False.elim hc) | (exfalso; omega) | skip))) <;> (try clear fct)
        all_goals
          (first | refine G.r1 ?_ | refine G.r2 ?_ | refine G.r3 ?_ | refine G.r0 ?_ | refine G.d0 ?_); (try simp (disch := first | exact dis | fail) only [push_cast, ↓reduceIte, Nat.reduceAdd, Nat.reduceLeDiff, Nat.reduceEqDiff, Nat.reduceLT, Int.reduceToNat, fct])
          exact ⟨rfl, Sep.sub hS (by repeat first | exact Sub.rfl' | (refine Sub.c (by repeat constructor) ?_) | refine Sub.skip ?_)⟩
      | ok x =>
        obtain ⟨m2, o⟩ := x
        cases o with
        | none =>
          (have fct := (And.intro @hu @hs); repeat' (first | ((with_reducible apply G.a); exact rfl) | refine G.reg fun K hK => ?_ | (with_reducible (refine hK _ _ ?_); clear hK K) | (with_reducible (refine hK _ ?_); clear hK K; intro wd hxd; have hS := Sep.xx hxd) | ((first | have hk := hK | have hk := hK2); clear hk; simp (disch := first | exact dis | fail) only [push_cast, ↓reduceIte, Nat.reduceAdd, Nat.reduceLeDiff, Nat.reduceEqDiff, Nat.reduceLT, Int.reduceToNat, fct]) | (refine zalc ?_; intro gb wb hS) | ((with_reducible refine gSt ?_); refine zs2 ?_; intro wb hS) | (refine zcp 67 (step_spec _ _ _) ?_; intro wb hS) | (refine zcp 68 (scStep_spec d st b _) ?_; intro wb hS) | ((with_reducible (show CallK _ 69 _ _ _ _ _)); have hx := MkS.of (l := l) (m := m) hS (by repeat constructor) (by repeat constructor) (by repeat constructor); refine zco 69 (mtake_spec hx hb (sc_ev d st b)) ?_; clear hx; intro vb wb hG; rw [ht] at hG; obtain ⟨rfl, fv2, rv2, hS⟩ := hG) | (refine G.drt mixed fun K hK wd hxd => ?_; have hS := Sep.xx hxd) | with_reducible refine OT_leaf ?_ | (with_reducible (refine hK2 _ ?_); clear hK2 K2; intro wd hxd; have hS := Sep.xx hxd) | with_reducible refine OT_br fun K2 hK2 => ?_ | (refine hK2 _ _ ?_ ?_ <;> clear hK2 K2) | refine G.drg mixed fun K hK => ?_ | (refine G.cn ?_ ?_ <;> intro hc <;> first | (with_reducible exact False.elim hc) | (exfalso; omega) | skip))) <;> (try clear fct)
          all_goals
            (first | refine G.r1 ?_ | refine G.r2 ?_ | refine G.r3 ?_ | refine G.r0 ?_ | refine G.d0 ?_); (try simp (disch := first | exact dis | fail) only [push_cast, ↓reduceIte, Nat.reduceAdd, Nat.reduceLeDiff, Nat.reduceEqDiff, Nat.reduceLT, Int.reduceToNat, fct])
            exact ⟨rfl, fv2, rv2, Sep.sub hS (by repeat first | exact Sub.rfl' | (refine Sub.c (by repeat constructor) ?_) | refine Sub.skip ?_)⟩
        | some r =>
          (have fct := (And.intro @hu @hs); repeat' (first | ((with_reducible apply G.a); exact rfl) | refine G.reg fun K hK => ?_ | (with_reducible (refine hK _ _ ?_); clear hK K) | (with_reducible (refine hK _ ?_); clear hK K; intro wd hxd; have hS := Sep.xx hxd) | ((first | have hk := hK | have hk := hK2); clear hk; simp (disch := first | exact dis | fail) only [push_cast, ↓reduceIte, Nat.reduceAdd, Nat.reduceLeDiff, Nat.reduceEqDiff, Nat.reduceLT, Int.reduceToNat, fct]) | (refine zalc ?_; intro gb wb hS) | ((with_reducible refine gSt ?_); refine zs2 ?_; intro wb hS) | (refine zcp 67 (step_spec _ _ _) ?_; intro wb hS) | (refine zcp 68 (scStep_spec d st b _) ?_; intro wb hS) | ((with_reducible (show CallK _ 69 _ _ _ _ _)); have hx := MkS.of (l := l) (m := m) hS (by repeat constructor) (by repeat constructor) (by repeat constructor); refine zco 69 (mtake_spec hx hb (sc_ev d st b)) ?_; clear hx; intro vb wb hG; rw [ht] at hG; obtain ⟨rv3, rfl, fv2, rv2, hS⟩ := hG) | (refine G.drt mixed fun K hK wd hxd => ?_; have hS := Sep.xx hxd) | with_reducible refine OT_leaf ?_ | (with_reducible (refine hK2 _ ?_); clear hK2 K2; intro wd hxd; have hS := Sep.xx hxd) | with_reducible refine OT_br fun K2 hK2 => ?_ | (refine hK2 _ _ ?_ ?_ <;> clear hK2 K2) | refine G.drg mixed fun K hK => ?_ | (refine G.cn ?_ ?_ <;> intro hc <;> first | (with_reducible exact False.elim hc) | (exfalso; omega) | skip))) <;> (try clear fct)
          all_goals
            (first | refine G.r1 ?_ | refine G.r2 ?_ | refine G.r3 ?_ | refine G.r0 ?_ | refine G.d0 ?_); (try simp (disch := first | exact dis | fail) only [push_cast, ↓reduceIte, Nat.reduceAdd, Nat.reduceLeDiff, Nat.reduceEqDiff, Nat.reduceLT, Int.reduceToNat, fct])
            exact ⟨rv3, rfl, fv2, rv2, Sep.sub hS (by repeat first | exact Sub.rfl' | (refine Sub.c (by repeat constructor) ?_) | refine Sub.skip ?_)⟩
    · rw [if_pos hs]
      (have fct := @hu; repeat' (first | ((with_reducible apply G.a); exact rfl) | refine G.reg fun K hK => ?_ | (with_reducible (refine hK _ _ ?_); clear hK K) | (with_reducible (refine hK _ ?_); clear hK K; intro wd hxd; have hS := Sep.xx hxd) | ((first | have hk := hK | have hk := hK2); clear hk; simp (disch := first | exact dis | fail) only [push_cast, ↓reduceIte, Nat.reduceAdd, Nat.reduceLeDiff, Nat.reduceEqDiff, Nat.reduceLT, Int.reduceToNat, fct]) | (refine zalc ?_; intro gb wb hS) | ((with_reducible refine gSt ?_); refine zs2 ?_; intro wb hS) | (refine zcp 67 (step_spec _ _ _) ?_; intro wb hS) | (refine zcp 68 (scStep_spec d st b _) ?_; intro wb hS) | (refine G.drt mixed fun K hK wd hxd => ?_; have hS := Sep.xx hxd) | with_reducible refine OT_leaf ?_ | (with_reducible (refine hK2 _ ?_); clear hK2 K2; intro wd hxd; have hS := Sep.xx hxd) | with_reducible refine OT_br fun K2 hK2 => ?_ | (refine hK2 _ _ ?_ ?_ <;> clear hK2 K2) | refine G.drg mixed fun K hK => ?_ | (refine G.cn ?_ ?_ <;> intro hc <;> first | (with_reducible exact False.elim hc) | (exfalso; omega) | skip))) <;> (try clear fct)
      all_goals
        (first | refine G.r1 ?_ | refine G.r2 ?_ | refine G.r3 ?_ | refine G.r0 ?_ | refine G.d0 ?_); (try simp (disch := first | exact dis | fail) only [push_cast, ↓reduceIte, Nat.reduceAdd, Nat.reduceLeDiff, Nat.reduceEqDiff, Nat.reduceLT, Int.reduceToNat, fct])
        exact ⟨rfl, Sep.sub hS (by repeat first | exact Sub.rfl' | (refine Sub.c (by repeat constructor) ?_) | refine Sub.skip ?_)⟩
def NRes (w0 w' : World) (M : List Chk) (res : Value) : Except Int (Option (List Str)) → Prop
  | .error k => res = (.tuple #[.slice none 0 0, .bool false, I k]) ∧ Sep w0 w' M
  | .ok none => res = (.tuple #[.slice none 0 0, .bool false, I 0]) ∧ Sep w0 w' M
  | .ok (some r) => ∃ rv, res = .tuple #[rv, .bool true, I 0] ∧ Sep w0 w' (accC rv 9 eS r :: M)
def c56 : MC := (.seq (.reg [qq 2 (.mv (.const (.slice none 0 0))), qq 3 (.mv (kb false)), qq 4 (.mv (ki 0))]) (.seq (.seq (.reg [qm 7 0, qq 8 (.nck (.tmp 7)), qq 9 (.fad 4 (.tmp 8)), qq 10 (.ld none (.tmp 9)), qq 11 (.bin .neq (.tmp 10) (ki 0))]) (.cond (.tmp 11) (.seq (.reg [qq 2 (.mv (.const (.slice none 0 0))), qq 3 (.mv (kb false)), qq 4 (.mv (ki 12))]) .ret) .skip)) (.seq (.reg [qm 13 0, qq 14 (.nck (.tmp 13)), qq 15 (.fad 5 (.tmp 14)), qq 16 (.ld none (.tmp 15)), qq 17 (.call 70 [(.tmp 16)]), qm 12 17, qq 18 (.ext 0 (.tmp 12)), qq 19 (.ext 1 (.tmp 12)), qq 5 (.alc 147 [(.bool false), (.bool false), (.bool false), (.bool false), (.bool false), (.int .u8 0)]), qn (.st 6 (.tmp 5) (.tmp 18)), qm 6 19]) (.seq (.seq (.reg [qm 20 6, qq 21 (.bin .neq (.tmp 20) (ki 0))]) (.cond (.tmp 21) (.seq (.reg [qm 22 6, qq 2 (.mv (.const (.slice none 0 0))), qq 3 (.mv (kb false)), qm 4 22]) .ret) .skip)) (.seq (.drg [qm 23 0, qq 24 (.nck (.tmp 23)), qq 25 (.fad 3 (.tmp 24)), qq 26 (.ld none (.tmp 25)), qq 27 (.ld (.some 6) (.tmp 5)), qq 28 (.call 69 [(.tmp 26), (.tmp 27)]), qq 29 (.ext 0 (.tmp 28)), qq 30 (.ext 1 (.tmp 28)), qq 31 (.ext 2 (.tmp 28)), qm 2 29, qm 3 30, qm 4 31] (.some (.br [qm 23 0, qq 24 (.nck (.tmp 23)), qq 25 (.fad 3 (.tmp 24))] (.leaf [qq 26 (.ld none (.tmp 25)), qq 27 (.ld (.some 6) (.tmp 5)), qq 28 (.call 69 [(.tmp 26), (.tmp 27)]), qq 29 (.ext 0 (.tmp 28)), qq 30 (.ext 1 (.tmp 28)), qq 31 (.ext 2 (.tmp 28)), qm 2 29, qm 3 30, qm 4 31]) (.leaf [qq 27 (.ld (.some 6) (.tmp 5)), qq 26 (.ld none (.tmp 25)), qq 28 (.call 69 [(.tmp 26), (.tmp 27)]), qq 29 (.ext 0 (.tmp 28)), qq 30 (.ext 1 (.tmp 28)), qq 31 (.ext 2 (.tmp 28)), qm 2 29, qm 3 30, qm 4 31])))) .ret)))))
theorem k56 : conv Tryd.prog 32 (Tryd.f56.body.getD .skip) = c56 := by kernel_rfl
theorem in56 {a0 : Value} {w : World} {R : Value → World → Prop} (h : G Tryd.prog Tryd.f56 32 [.c c56] R (frL 0 [a0]) w) : Ret Tryd.prog 56 #[a0] w R := G.enter (args := [a0]) Tryd.func56 (c := Tryd.f56.body.getD .skip) (by kernel_rfl) (by kernel_rfl) (by simp) k56 h
set_option maxHeartbeats 1000000 in
theorem wend_spec {gw g : Nat} {d : Dl} {l : Lm} {q st : Int} {m : Mk} {M : List Chk} {w w0 : World} (hM : WkS w0 w gw g d l q st m M) (hb : bdM 900000000 m) :
    Ret Tryd.prog 56 #[.pointer (some ⟨gw, 0, none⟩)] w fun res w' => NRes w0 w' M res (endW l q st m) := by
  refine in56 ?_
  obtain ⟨fv, rv, hS⟩ := hM
  unfold endW
  by_cases hq : q = 0
  · rw [if_neg (by omega)]
    unfold endR
    by_cases hs : (closeM st).2 = 0
    · rw [if_neg (by omega)]
      cases ht : takeM l m (closeM st).1 with
      | error k =>
        have hk := take_err ht
        (have fct := (And.intro @hq @hs); repeat' (first | ((with_reducible apply G.a); exact rfl) | refine G.reg fun K hK => ?_ | (with_reducible (refine hK _ _ ?_); clear hK K) | (with_reducible (refine hK _ ?_); clear hK K; intro wd hxd; have hS := Sep.xx hxd) | ((first | have hk := hK | have hk := hK2); clear hk; simp (disch := first | exact dis | fail) only [push_cast, ↓reduceIte, Nat.reduceAdd, Nat.reduceLeDiff, Nat.reduceEqDiff, Nat.reduceLT, Int.reduceToNat, fct]) | (refine zalc ?_; intro gb wb hS) | ((with_reducible refine gSt ?_); refine zs2 ?_; intro wb hS) | (refine zcp 70 (scClose_spec st _) ?_; intro wb hS) | ((with_reducible (show CallK _ 69 _ _ _ _ _)); have hx := MkS.of (l := l) (m := m) hS (by repeat constructor) (by repeat constructor) (by repeat constructor); refine zco 69 (mtake_spec hx hb (close_ev st)) ?_; clear hx; intro vb wb hG; rw [ht] at hG; obtain ⟨rfl, hS⟩ := hG) | (refine G.drt mixed fun K hK wd hxd => ?_; have hS := Sep.xx hxd) | with_reducible refine OT_leaf ?_ | (with_reducible (refine hK2 _ ?_); clear hK2 K2; intro wd hxd; have hS := Sep.xx hxd) | with_reducible refine OT_br fun K2 hK2 => ?_ | (refine hK2 _ _ ?_ ?_ <;> clear hK2 K2) | refine G.drg mixed fun K hK => ?_ | (refine G.cn ?_ ?_ <;> intro hc <;> first | (with_reducible exact False.elim hc) | (exfalso; omega) | skip))) <;> (try clear fct)
        all_goals
          (first | refine G.r1 ?_ | refine G.r2 ?_ | refine G.r3 ?_ | refine G.r0 ?_ | refine G.d0 ?_); (try simp (disch := first | exact dis | fail) only [push_cast, ↓reduceIte, Nat.reduceAdd, Nat.reduceLeDiff, Nat.reduceEqDiff, Nat.reduceLT, Int.reduceToNat, fct])
          exact ⟨rfl, Sep.sub hS (by repeat first | exact Sub.rfl' | (refine Sub.c (by repeat constructor) ?_) | refine Sub.skip ?_)⟩
      | ok x =>
        obtain ⟨m2, o⟩ := x
        cases o with
        | none =>
          (have fct := (And.intro @hq @hs); repeat' (first | ((with_reducible apply G.a); exact rfl) | refine G.reg fun K hK => ?_ | (with_reducible (refine hK _ _ ?_); clear hK K) | (with_reducible (refine hK _ ?_); clear hK K; intro wd hxd; have hS := Sep.xx hxd) | ((first | have hk := hK | have hk := hK2); clear hk; simp (disch := first | exact dis | fail) only [push_cast, ↓reduceIte, Nat.reduceAdd, Nat.reduceLeDiff, Nat.reduceEqDiff, Nat.reduceLT, Int.reduceToNat, fct]) | (refine zalc ?_; intro gb wb hS) | ((with_reducible refine gSt ?_); refine zs2 ?_; intro wb hS) | (refine zcp 70 (scClose_spec st _) ?_; intro wb hS) | ((with_reducible (show CallK _ 69 _ _ _ _ _)); have hx := MkS.of (l := l) (m := m) hS (by repeat constructor) (by repeat constructor) (by repeat constructor); refine zco 69 (mtake_spec hx hb (close_ev st)) ?_; clear hx; intro vb wb hG; rw [ht] at hG; obtain ⟨rfl, fv2, rv2, hS⟩ := hG) | (refine G.drt mixed fun K hK wd hxd => ?_; have hS := Sep.xx hxd) | with_reducible refine OT_leaf ?_ | (with_reducible (refine hK2 _ ?_); clear hK2 K2; intro wd hxd; have hS := Sep.xx hxd) | with_reducible refine OT_br fun K2 hK2 => ?_ | (refine hK2 _ _ ?_ ?_ <;> clear hK2 K2) | refine G.drg mixed fun K hK => ?_ | (refine G.cn ?_ ?_ <;> intro hc <;> first | (with_reducible exact False.elim hc) | (exfalso; omega) | skip))) <;> (try clear fct)
          all_goals
            (first | refine G.r1 ?_ | refine G.r2 ?_ | refine G.r3 ?_ | refine G.r0 ?_ | refine G.d0 ?_); (try simp (disch := first | exact dis | fail) only [push_cast, ↓reduceIte, Nat.reduceAdd, Nat.reduceLeDiff, Nat.reduceEqDiff, Nat.reduceLT, Int.reduceToNat, fct])
            exact ⟨rfl, Sep.sub hS (by repeat first | exact Sub.rfl' | (refine Sub.c (by repeat constructor) ?_) | refine Sub.skip ?_)⟩
        | some r =>
          (have fct := (And.intro @hq @hs); repeat' (first | ((with_reducible apply G.a); exact rfl) | refine G.reg fun K hK => ?_ | (with_reducible (refine hK _ _ ?_); clear hK K) | (with_reducible (refine hK _ ?_); clear hK K; intro wd hxd; have hS := Sep.xx hxd) | ((first | have hk := hK | have hk := hK2); clear hk; simp (disch := first | exact dis | fail) only [push_cast, ↓reduceIte, Nat.reduceAdd, Nat.reduceLeDiff, Nat.reduceEqDiff, Nat.reduceLT, Int.reduceToNat, fct]) | (refine zalc ?_; intro gb wb hS) | ((with_reducible refine gSt ?_); refine zs2 ?_; intro wb hS) | (refine zcp 70 (scClose_spec st _) ?_; intro wb hS) | ((with_reducible (show CallK _ 69 _ _ _ _ _)); have hx := MkS.of (l := l) (m := m) hS (by repeat constructor) (by repeat constructor) (by repeat constructor); refine zco 69 (mtake_spec hx hb (close_ev st)) ?_; clear hx; intro vb wb hG; rw [ht] at hG; obtain ⟨rv3, rfl, fv2, rv2, hS⟩ := hG) | (refine G.drt mixed fun K hK wd hxd => ?_; have hS := Sep.xx hxd) | with_reducible refine OT_leaf ?_ | (with_reducible (refine hK2 _ ?_); clear hK2 K2; intro wd hxd; have hS := Sep.xx hxd) | with_reducible refine OT_br fun K2 hK2 => ?_ | (refine hK2 _ _ ?_ ?_ <;> clear hK2 K2) | refine G.drg mixed fun K hK => ?_ | (refine G.cn ?_ ?_ <;> intro hc <;> first | (with_reducible exact False.elim hc) | (exfalso; omega) | skip))) <;> (try clear fct)
          all_goals
            (first | refine G.r1 ?_ | refine G.r2 ?_ | refine G.r3 ?_ | refine G.r0 ?_ | refine G.d0 ?_); (try simp (disch := first | exact dis | fail) only [push_cast, ↓reduceIte, Nat.reduceAdd, Nat.reduceLeDiff, Nat.reduceEqDiff, Nat.reduceLT, Int.reduceToNat, fct])
            exact ⟨rv3, rfl, Sep.sub hS (by repeat first | exact Sub.rfl' | (refine Sub.c (by repeat constructor) ?_) | refine Sub.skip ?_)⟩
    · rw [if_pos hs]
      (have fct := @hq; repeat' (first | ((with_reducible apply G.a); exact rfl) | refine G.reg fun K hK => ?_ | (with_reducible (refine hK _ _ ?_); clear hK K) | (with_reducible (refine hK _ ?_); clear hK K; intro wd hxd; have hS := Sep.xx hxd) | ((first | have hk := hK | have hk := hK2); clear hk; simp (disch := first | exact dis | fail) only [push_cast, ↓reduceIte, Nat.reduceAdd, Nat.reduceLeDiff, Nat.reduceEqDiff, Nat.reduceLT, Int.reduceToNat, fct]) | (refine zalc ?_; intro gb wb hS) | ((with_reducible refine gSt ?_); refine zs2 ?_; intro wb hS) | (refine zcp 70 (scClose_spec st _) ?_; intro wb hS) | (refine G.drt mixed fun K hK wd hxd => ?_; have hS := Sep.xx hxd) | with_reducible refine OT_leaf ?_ | (with_reducible (refine hK2 _ ?_); clear hK2 K2; intro wd hxd; have hS := Sep.xx hxd) | with_reducible refine OT_br fun K2 hK2 => ?_ | (refine hK2 _ _ ?_ ?_ <;> clear hK2 K2) | refine G.drg mixed fun K hK => ?_ | (refine G.cn ?_ ?_ <;> intro hc <;> first | (with_reducible exact False.elim hc) | (exfalso; omega) | skip))) <;> (try clear fct)
      all_goals
        (first | refine G.r1 ?_ | refine G.r2 ?_ | refine G.r3 ?_ | refine G.r0 ?_ | refine G.d0 ?_); (try simp (disch := first | exact dis | fail) only [push_cast, ↓reduceIte, Nat.reduceAdd, Nat.reduceLeDiff, Nat.reduceEqDiff, Nat.reduceLT, Int.reduceToNat, fct])
        exact ⟨rfl, Sep.sub hS (by repeat first | exact Sub.rfl' | (refine Sub.c (by repeat constructor) ?_) | refine Sub.skip ?_)⟩
  · rw [if_pos hq]
    repeat' (first | ((with_reducible apply G.a); exact rfl) | refine G.reg fun K hK => ?_ | (with_reducible (refine hK _ _ ?_); clear hK K) | (with_reducible (refine hK _ ?_); clear hK K; intro wd hxd; have hS := Sep.xx hxd) | ((first | have hk := hK | have hk := hK2); clear hk; simp (disch := first | exact dis | fail) only [push_cast, ↓reduceIte, Nat.reduceAdd, Nat.reduceLeDiff, Nat.reduceEqDiff, Nat.reduceLT, Int.reduceToNat, fct]) | (refine zalc ?_; intro gb wb hS) | ((with_reducible refine gSt ?_); refine zs2 ?_; intro wb hS) | (refine G.drt mixed fun K hK wd hxd => ?_; have hS := Sep.xx hxd) | with_reducible refine OT_leaf ?_ | (with_reducible (refine hK2 _ ?_); clear hK2 K2; intro wd hxd; have hS := Sep.xx hxd) | with_reducible refine OT_br fun K2 hK2 => ?_ | (refine hK2 _ _ ?_ ?_ <;> clear hK2 K2) | refine G.drg mixed fun K hK => ?_ | (refine G.cn ?_ ?_ <;> intro hc <;> first | (with_reducible exact False.elim hc) | (exfalso; omega) | skip))
    all_goals
      (first | refine G.r1 ?_ | refine G.r2 ?_ | refine G.r3 ?_ | refine G.r0 ?_ | refine G.d0 ?_); (try simp (disch := first | exact dis | fail) only [push_cast, ↓reduceIte, Nat.reduceAdd, Nat.reduceLeDiff, Nat.reduceEqDiff, Nat.reduceLT, Int.reduceToNat, fct])
      exact ⟨rfl, Sep.sub hS (by repeat first | exact Sub.rfl' | (refine Sub.c (by repeat constructor) ?_) | refine Sub.skip ?_)⟩
end Go.Proofs.YtjajihaeoolefaaDoor
