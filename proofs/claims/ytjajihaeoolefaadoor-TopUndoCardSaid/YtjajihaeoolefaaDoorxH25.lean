/- Texts of the proof, joined. -/
import Derived.Test.YtjajihaeoolefaaDoorxE25
import Derived.Test.YtjajihaeoolefaaDoorxT25
import Derived.Test.YtjajihaeoolefaaDoorxG25
import Derived.Test.YtjajihaeoolefaaDoorxA06
namespace Go.Proofs.YtjajihaeoolefaaDoor
set_option linter.unusedSimpArgs false
set_option linter.unusedVariables false
attribute [local irreducible] SemK UnitK StK AlcK BslK CallK CallV Instr.box Builtin.append_ Instr.makeSlice Instr.makeMap Instr.lookup Instr.mapUpdate Instr.sliceAt convert
open Go.RowKit
theorem Rd.slb {α : Type} {w : World} {e : Enc α} {v : Value} {xs : List α} {k k' : IntKind} {a b : Int} {n : Nat} (h : Rd w e v xs) (hs : e.sz = n) (hp : 0 < n) (hb : 0 ≤ a ∧ a ≤ b ∧ b ≤ (xs.length : Int)) :
    okSlV (some (.int k a)) (some (.int k' b)) v = True ∧ Rd w e (slVV n (some (.int k a)) (some (.int k' b)) v) ((xs.take b.toNat).drop a.toNat) := by
  have h1 := h.slh (k := k') hs (b := b) ⟨by omega, hb.2.2⟩
  have h2 := h1.sll (k := k) hs hp (a := a) ⟨hb.1, by rw [List.length_take]; omega⟩
  obtain ⟨p, cap, rfl, hc, _⟩ := h
  refine ⟨okSlV_xb ⟨hb.1, hb.2.1, by omega⟩, ?_⟩
  have e1 : slVV n (some (.int k a)) (some (.int k' b)) (.slice p xs.length cap) = slVV n (some (.int k a)) none (slVV n none (some (.int k' b)) (.slice p xs.length cap)) := by
    have e0 : p.map (fun x => x.add ((0 : Int).toNat * n)) = p := by cases p <;> simp [add_0]
    simp only [slVV, loN, hiN, Int.toNat_natCast, e0, ite_self]
    simp
  rw [e1]
  exact h2
theorem Stp.all {ps : List Int} {R R' : List (List Val)} {c : Chg} {Q : List Val → Prop} (h : Stp ps R c R') (hR : ∀ r ∈ R, Q r) (hc : Q c.new) : ∀ r ∈ R', Q r := by
  rcases h with ⟨_, _, h3⟩ | ⟨_, h2⟩ | ⟨_, X, h2, h3⟩
  · intro r hr
    rcases List.mem_cons.1 (h3.mem_iff.1 hr) with rfl | hr
    · exact hc
    · exact hR r hr
  · intro r hr
    exact hR r (h2.mem_iff.2 (List.mem_cons_of_mem _ hr))
  · intro r hr
    rcases List.mem_cons.1 (h3.mem_iff.1 hr) with rfl | hr
    · exact hc
    · exact hR r (h2.mem_iff.2 (List.mem_cons_of_mem _ hr))
theorem Stps.all {ps : List Int} {Q : List Val → Prop} : ∀ {cs : List Chg} {R R' : List (List Val)}, Stps ps R cs R' → (∀ r ∈ R, Q r) → (∀ c ∈ cs, Q c.new) → ∀ r ∈ R', Q r
  | _, _, _, .nil h, hR, _ => fun r hr => hR r (h.mem_iff.2 hr)
  | _, _, _, .cons h1 h2, hR, hc => h2.all (h1.all hR (hc _ (by simp))) (fun c hx => hc c (List.mem_cons_of_mem _ hx))
theorem Stp.len {ps : List Int} {R R' : List (List Val)} {c : Chg} (h : Stp ps R c R') : R'.length ≤ R.length + 1 := by
  rcases h with ⟨_, _, h3⟩ | ⟨_, h2⟩ | ⟨_, X, h2, h3⟩
  · have := h3.length_eq; simp at this; omega
  · have := h2.length_eq; simp at this; omega
  · have := h2.length_eq; have := h3.length_eq; simp at *; omega
theorem Stps.len {ps : List Int} : ∀ {cs : List Chg} {R R' : List (List Val)}, Stps ps R cs R' → R'.length ≤ R.length + cs.length
  | _, _, _, .nil h => by have := h.length_eq; simp; omega
  | _, _, _, .cons h1 h2 => by have := h1.len; have := h2.len; simp; omega
theorem count_perm {a b : List (List Val)} (h : a.Perm b) (r : List Val) : countM a r = countM b r := h.countP_eq _
def toZ : Value → Int | .int _ n => n | _ => 0
theorem toZ_i (k : IntKind) (n : Int) : toZ (.int k n) = n := rfl
theorem rdCs1 {w : World} {v va vc : Value} {c : Chg} (h1 : Rd w eCg v [((turnM c).kind, va, vc)]) (h2 : Rd w eVal va c.new) (h3 : Rd w eVal vc c.old) : RdCs w v [turnM c] := by
  refine ⟨_, h1, rfl, fun i hi => ?_⟩
  cases i with
  | zero => exact ⟨rfl, h2, h3⟩
  | succ i => simp at hi
theorem rdCs_at {w : World} {vc : Value} {xs : List (Int × Value × Value)} {cs : List Chg} {i : Int} (c1 : Rd w eCg vc xs) (m1 : xs.length = cs.length) (j1 : ∀ i, i < xs.length → (xs.getD i default).1 = (cs.getD i default).kind ∧ Rd w eVal (xs.getD i default).2.1 (cs.getD i default).old ∧ Rd w eVal (xs.getD i default).2.2 (cs.getD i default).new)
    (hi : 0 ≤ i ∧ i < cs.length) : okSlV (some (I i)) (some (I (i + 1))) vc = True ∧ RdCs w (slVV 3 (some (I i)) (some (I (i + 1))) vc) [cs.getD i.toNat default] := by
  obtain ⟨h1, h2⟩ := c1.slb (k := .i64) (k' := .i64) (a := i) (b := i + 1) (n := 3) rfl (by omega) ⟨by omega, by omega, by omega⟩
  refine ⟨h1, [xs.getD i.toNat default], ?_, rfl, fun j hj => ?_⟩
  · have e : (xs.take (i + 1).toNat).drop i.toNat = [xs.getD i.toNat default] := by
      have hlt : i.toNat < xs.length := by omega
      rw [show (i + 1).toNat = i.toNat + 1 by omega, List.take_succ_eq_append_getElem hlt, List.drop_append_of_le_length (by rw [List.length_take]; omega), List.drop_take_self, List.nil_append, List.getD_eq_getElem?_getD, List.getElem?_eq_getElem hlt]
      rfl
    rw [← e]
    exact h2
  · cases j with
    | zero => exact j1 i.toNat (by omega)
    | succ j => simp at hj
def c3l1 : MC := (.seq (.reg [qq 30 (.bin .lss (.tmp 29) (.tmp 28))]) (.seq (.cond (.tmp 30) .skip (.exit 0)) (.seq (.blk 1 (.seq (.reg [qq 31 (.adr 3 (.tmp 27) (.tmp 29)), qq 32 (.ld (.some 3) (.tmp 31)), qq 8 (.alc 34 [(.int .i64 0), (.slice none 0 0), (.slice none 0 0)]), qn (.st 3 (.tmp 8) (.tmp 32))]) (.seq (.reg [qq 33 (.fad 1 (.tmp 8)), qq 34 (.ld none (.tmp 33)), qq 35 (.fad 2 (.tmp 8)), qq 36 (.ld none (.tmp 35)), qq 37 (.bsl 32 [(.slice none 0 0), (.slice none 0 0)] 2 [⟨0, ⟨1, (.tmp 34)⟩⟩, ⟨1, ⟨1, (.tmp 36)⟩⟩]), qq 38 (.bld [(.slice none 0 0), (.slice none 0 0)] [⟨1, ⟨1, (.tmp 37)⟩⟩]), qq 39 (.call 7 [(.tmp 38)]), qq 40 (.un .not (.tmp 39))]) (.cond (.tmp 40) (.seq (.reg [qq 41 (.call 6 []), qm 6 41]) .ret) .skip)))) (.reg [qq 42 (.bin .add (.tmp 29) (ki 1)), qm 29 42]))))
def c3l2 : MC := (.seq (.seq (.reg [qm 57 12, qq 58 (.bin .geq (.tmp 57) (ki 0))]) (.cond (.tmp 58) .skip (.exit 2))) (.seq (.blk 3 (.seq (.drg [qq 62 (.ld (.some 2) (.tmp 9)), qm 63 1, qm 64 2, qm 65 12, qm 66 12, qq 67 (.bin .add (.tmp 66) (ki 1)), qq 68 (.slV 3 (.tmp 64) (.some (.tmp 65)) (.some (.tmp 67))), qq 69 (.call 9 [(.tmp 68)]), qq 70 (.call 8 [(.tmp 62), (.tmp 63), (.tmp 69)]), qm 61 70, qq 71 (.ext 0 (.tmp 61)), qq 72 (.ext 1 (.tmp 61)), qq 73 (.ext 2 (.tmp 61)), qq 13 (.alc 25 [(.slice none 0 0), (.slice none 0 0)]), qn (.st 2 (.tmp 13) (.tmp 71)), qm 14 72, qm 15 73] (.some (.br [qm 63 1, qm 64 2, qm 65 12, qm 66 12, qq 67 (.bin .add (.tmp 66) (ki 1)), qq 68 (.slV 3 (.tmp 64) (.some (.tmp 65)) (.some (.tmp 67)))] (.br [qq 62 (.ld (.some 2) (.tmp 9))] (.br [qq 69 (.call 9 [(.tmp 68)])] (.leaf [qq 70 (.call 8 [(.tmp 62), (.tmp 63), (.tmp 69)]), qm 61 70, qq 71 (.ext 0 (.tmp 61)), qq 72 (.ext 1 (.tmp 61)), qq 73 (.ext 2 (.tmp 61)), qq 13 (.alc 25 [(.slice none 0 0), (.slice none 0 0)]), qn (.st 2 (.tmp 13) (.tmp 71)), qm 14 72, qm 15 73]) (.leaf [qq 13 (.alc 25 [(.slice none 0 0), (.slice none 0 0)]), qq 70 (.call 8 [(.tmp 62), (.tmp 63), (.tmp 69)]), qm 61 70, qq 71 (.ext 0 (.tmp 61)), qq 72 (.ext 1 (.tmp 61)), qq 73 (.ext 2 (.tmp 61)), qn (.st 2 (.tmp 13) (.tmp 71)), qm 14 72, qm 15 73])) (.leaf [qq 13 (.alc 25 [(.slice none 0 0), (.slice none 0 0)]), qq 69 (.call 9 [(.tmp 68)]), qq 70 (.call 8 [(.tmp 62), (.tmp 63), (.tmp 69)]), qm 61 70, qq 71 (.ext 0 (.tmp 61)), qq 72 (.ext 1 (.tmp 61)), qq 73 (.ext 2 (.tmp 61)), qn (.st 2 (.tmp 13) (.tmp 71)), qm 14 72, qm 15 73])) (.br [] (.br [qq 69 (.call 9 [(.tmp 68)])] (.br [qq 62 (.ld (.some 2) (.tmp 9))] (.leaf [qq 70 (.call 8 [(.tmp 62), (.tmp 63), (.tmp 69)]), qm 61 70, qq 71 (.ext 0 (.tmp 61)), qq 72 (.ext 1 (.tmp 61)), qq 73 (.ext 2 (.tmp 61)), qq 13 (.alc 25 [(.slice none 0 0), (.slice none 0 0)]), qn (.st 2 (.tmp 13) (.tmp 71)), qm 14 72, qm 15 73]) (.leaf [qq 13 (.alc 25 [(.slice none 0 0), (.slice none 0 0)]), qq 70 (.call 8 [(.tmp 62), (.tmp 63), (.tmp 69)]), qm 61 70, qq 71 (.ext 0 (.tmp 61)), qq 72 (.ext 1 (.tmp 61)), qq 73 (.ext 2 (.tmp 61)), qn (.st 2 (.tmp 13) (.tmp 71)), qm 14 72, qm 15 73])) (.leaf [qq 13 (.alc 25 [(.slice none 0 0), (.slice none 0 0)]), qq 62 (.ld (.some 2) (.tmp 9)), qq 70 (.call 8 [(.tmp 62), (.tmp 63), (.tmp 69)]), qm 61 70, qq 71 (.ext 0 (.tmp 61)), qq 72 (.ext 1 (.tmp 61)), qq 73 (.ext 2 (.tmp 61)), qn (.st 2 (.tmp 13) (.tmp 71)), qm 14 72, qm 15 73])) (.br [qq 13 (.alc 25 [(.slice none 0 0), (.slice none 0 0)])] (.leaf [qq 62 (.ld (.some 2) (.tmp 9)), qq 69 (.call 9 [(.tmp 68)]), qq 70 (.call 8 [(.tmp 62), (.tmp 63), (.tmp 69)]), qm 61 70, qq 71 (.ext 0 (.tmp 61)), qq 72 (.ext 1 (.tmp 61)), qq 73 (.ext 2 (.tmp 61)), qn (.st 2 (.tmp 13) (.tmp 71)), qm 14 72, qm 15 73]) (.leaf [qq 69 (.call 9 [(.tmp 68)]), qq 62 (.ld (.some 2) (.tmp 9)), qq 70 (.call 8 [(.tmp 62), (.tmp 63), (.tmp 69)]), qm 61 70, qq 71 (.ext 0 (.tmp 61)), qq 72 (.ext 1 (.tmp 61)), qq 73 (.ext 2 (.tmp 61)), qn (.st 2 (.tmp 13) (.tmp 71)), qm 14 72, qm 15 73])))))) (.seq (.seq (.reg [qm 74 15, qq 75 (.bin .neq (.tmp 74) (ki 0))]) (.cond (.tmp 75) (.seq (.reg [qq 6 (.mv (kb false))]) .ret) .skip)) (.reg [qq 76 (.ld (.some 2) (.tmp 13)), qn (.st 2 (.tmp 9) (.tmp 76))])))) (.reg [qm 59 12, qq 60 (.bin .sub (.tmp 59) (ki 1)), qm 12 60])))
def c3 : MC := (.seq (.reg [qq 3 (.raw (.box 25 (.tmp 0)) 0), qq 6 (.mv (kb false))]) (.seq (.seq (.reg [qq 16 (.ld (.some 2) (.tmp 3)), qm 17 1, qq 18 (.bld [(.slice none 0 0), (.slice none 0 0), (.slice none 0 0), (.slice none 0 0), (.slice none 0 0)] [⟨0, ⟨2, (.tmp 16)⟩⟩, ⟨4, ⟨1, (.tmp 17)⟩⟩]), qq 19 (.call 5 [(.tmp 18)]), qq 20 (.un .not (.tmp 19)), qm 21 20, qmf 21 22 2, qf 21 23 (.len (.tmp 22)), qf 21 24 (.bin .gtr (.tmp 23) (ki 12)), qq 25 (.pick (.tmp 21) (kb true) (.tmp 24))]) (.cond (.tmp 25) (.seq (.reg [qq 26 (.call 6 []), qm 6 26]) .ret) .skip)) (.seq (.seq (.reg [qm 27 2, qq 28 (.len (.tmp 27)), qq 29 (.mv (ki 0))]) (.blk 0 (.loop c3l1))) (.seq (.reg [qq 44 (.ld (.some 2) (.tmp 3)), qm 45 1, qm 46 2, qq 47 (.call 8 [(.tmp 44), (.tmp 45), (.tmp 46)]), qm 43 47, qq 48 (.ext 0 (.tmp 43)), qq 49 (.ext 1 (.tmp 43)), qq 50 (.ext 2 (.tmp 43)), qq 9 (.alc 25 [(.slice none 0 0), (.slice none 0 0)]), qn (.st 2 (.tmp 9) (.tmp 48)), qm 10 49, qm 11 50]) (.seq (.seq (.reg [qm 51 11, qq 52 (.bin .neq (.tmp 51) (ki 0))]) (.cond (.tmp 52) (.seq (.reg [qq 53 (.call 6 []), qm 6 53]) .ret) .skip)) (.seq (.seq (.reg [qm 54 2, qq 55 (.len (.tmp 54)), qq 56 (.bin .sub (.tmp 55) (ki 1)), qm 12 56]) (.blk 2 (.loop c3l2))) (.seq (.drg [qq 77 (.ld (.some 2) (.tmp 9)), qq 78 (.call 11 [(.tmp 77)]), qq 79 (.ld (.some 2) (.tmp 3)), qq 80 (.call 11 [(.tmp 79)]), qq 81 (.call 10 [(.tmp 78), (.tmp 80)]), qm 82 81, qt 82 83 (.call 6 []), qq 84 (.pick (.tmp 82) (.tmp 83) (kb false)), qm 6 84] (.some (.br [] (.br [qq 77 (.ld (.some 2) (.tmp 9))] (.leaf [qq 78 (.call 11 [(.tmp 77)]), qq 79 (.ld (.some 2) (.tmp 3)), qq 80 (.call 11 [(.tmp 79)]), qq 81 (.call 10 [(.tmp 78), (.tmp 80)]), qm 82 81, qt 82 83 (.call 6 []), qq 84 (.pick (.tmp 82) (.tmp 83) (kb false)), qm 6 84]) (.leaf [qq 79 (.ld (.some 2) (.tmp 3)), qq 78 (.call 11 [(.tmp 77)]), qq 80 (.call 11 [(.tmp 79)]), qq 81 (.call 10 [(.tmp 78), (.tmp 80)]), qm 82 81, qt 82 83 (.call 6 []), qq 84 (.pick (.tmp 82) (.tmp 83) (kb false)), qm 6 84])) (.leaf [qq 79 (.ld (.some 2) (.tmp 3)), qq 77 (.ld (.some 2) (.tmp 9)), qq 78 (.call 11 [(.tmp 77)]), qq 80 (.call 11 [(.tmp 79)]), qq 81 (.call 10 [(.tmp 78), (.tmp 80)]), qm 82 81, qt 82 83 (.call 6 []), qq 84 (.pick (.tmp 82) (.tmp 83) (kb false)), qm 6 84])))) .ret)))))))
theorem k3 : conv Tryd.prog 85 (Tryd.f3.body.getD .skip) = c3 := by kernel_rfl
theorem in3 {a0 a1 a2 : Value} {w : World} {R : Value → World → Prop} (h : G Tryd.prog Tryd.f3 85 [.c c3] R (frL 0 [a0, a1, a2]) w) : Ret Tryd.prog 3 #[a0, a1, a2] w R := G.enter (args := [a0, a1, a2]) Tryd.func3 (c := Tryd.f3.body.getD .skip) (by kernel_rfl) (by kernel_rfl) (by simp) k3 h
def undoT : MC := match c3 with
  | .seq _ (.seq _ (.seq _ (.seq _ (.seq _ t)))) => t
  | _ => .skip
set_option maxHeartbeats 4000000 in
theorem undo_tail {vl vr vk vc a b : Value} {l : List Col} {rows R : List (List Val)} {keys : List Str} {cs : List Chg} {us : List Value} {g3 g9 n : Nat} {w wl : World} {u : Fr} (h0 : Rd w eC vl l) (h2 : RdT w eVal vr rows) (h1 : Rd w eS vk keys) {xs : List (Int × Value × Value)} (c1 : Rd w eCg vc xs)
    (m1 : xs.length = cs.length) (j1 : ∀ i, i < xs.length → (xs.getD i default).1 = (cs.getD i default).kind ∧ Rd w eVal (xs.getD i default).2.1 (cs.getD i default).old ∧ Rd w eVal (xs.getD i default).2.2 (cs.getD i default).new)
    (hll : l.length ≤ 12) (hl : ∀ c ∈ l, c.name.length ≤ 100000000000) (hk1 : keys.length ≤ 1000) (hrl : rows.length ≤ 12) (hcl : cs.length ≤ 12) (hf : ∀ r ∈ rows, FineV r ∧ r.length ≤ 12) (hfc : ∀ c ∈ cs, (FineV c.old ∧ FineV c.new) ∧ c.old.length ≤ 12 ∧ c.new.length ≤ 12) (hT : Tab w)
    (ko : KeysOk l keys) (ro : RowsOk l.length (placesM l keys) rows) (oo : ∀ c ∈ cs, oneM l.length (placesM l keys) c = 0) (hst : Stps (placesM l keys) rows cs R)
    (q1 : u 1 = vk) (q2 : u 2 = vc) (q3 : u 3 = .pointer (some ⟨g3, 0, none⟩)) (q9 : u 9 = .pointer (some ⟨g9, 0, none⟩))
    (hS : Sep w wl [boxC g9 25 [a, b], accC a 88 eC l, accC b 32 eV us, frzC eVal us R, boxC g3 25 [vl, vr]]) :
    G Tryd.prog Tryd.f3 n [.c undoT] (fun v w' => v = .bool true ∧ Ext w w') u wl := by
  unfold undoT c3
  dsimp only
  have hbd3 := c1.bd
  (have fct := (And.intro @q1 (And.intro @q2 (And.intro @q3 @q9))); repeat' (first | ((with_reducible apply G.a); exact rfl) | refine G.reg fun K hK => ?_ | (with_reducible (refine hK _ _ ?_); clear hK K) | (with_reducible (refine hK _ ?_); clear hK K; intro wd hxd; have hS := Sep.xx hxd) | ((first | have hk := hK | have hk := hK2); clear hk; simp (disch := first | exact dis | fail) only [push_cast, ↓reduceIte, Nat.reduceAdd, Nat.reduceLeDiff, Nat.reduceEqDiff, Nat.reduceLT, Int.reduceToNat, fct]) | ((first | refine brO_n ?_ ?_ | refine brQ_n ?_ ?_) <;> intro hb hc <;> first | (with_reducible exact False.elim hc) | (exfalso; omega) | (simp only [hb]; clear hb)) | ((first | refine zalc ?_ | refine zbsl ?_ | ((with_reducible refine gBox ?_); refine zbox ?_)); intro gb wb hS) | ((with_reducible refine gSt ?_); refine zs2 ?_; intro wb hS) | (refine G.drt mixed fun K hK wd hxd => ?_; have hS := Sep.xx hxd) | with_reducible refine OT_leaf ?_ | (with_reducible (refine hK2 _ ?_); clear hK2 K2; intro wd hxd; have hS := Sep.xx hxd) | with_reducible refine OT_br fun K2 hK2 => ?_ | (refine hK2 _ _ ?_ ?_ <;> clear hK2 K2) | refine G.drg mixed fun K hK => ?_ | (refine G.cn ?_ ?_ <;> intro hc <;> first | (with_reducible exact False.elim hc) | (exfalso; omega) | skip))) <;> (try clear fct)
  all_goals
  refine G.loop (fun r w' => ∃ (k : Nat) (a b : Value) (us : List Value) (T B : List (List Val)), k ≤ cs.length ∧ r 12 = I ((k : Int) - 1) ∧ r 1 = vk ∧ r 2 = vc ∧ r 3 = .pointer (some ⟨g3, 0, none⟩) ∧ r 9 = .pointer (some ⟨g9, 0, none⟩) ∧ Stps (placesM l keys) rows (cs.take k) T ∧ T.Perm B ∧
      Sep w w' [boxC g9 25 [a, b], accC a 88 eC l, accC b 32 eV us, frzC eVal us B, boxC g3 25 [vl, vr]]) (fun r _ => (toZ (r 12) + 1).toNat) ?_ ?_
  · have fct := (And.intro @q1 (And.intro @q2 (And.intro @q3 (And.intro @q9 @m1)))); exact ⟨cs.length, a, b, us, R, R, Nat.le_refl _, by exact sf, by exact sf, by exact sf, by exact sf, by exact sf, by rw [List.take_length]; exact hst, List.Perm.refl _, hS⟩
  · clear hS q1 q2 q3 q9
    rintro u2 wl2 ⟨k, a, b, us, T, B, hk, q12, q1, q2, q3, q9, hsk, hTB, hS⟩ ih
    have hm : toZ (u2 12) = (k : Int) - 1 := by rw [q12]; rfl
    have oos : ∀ k, ∀ c ∈ cs.take k, oneM l.length (placesM l keys) c = 0 := fun k c hc => oo c (List.mem_of_mem_take hc)
    have hBf : ∀ r ∈ B, FineV r ∧ r.length ≤ 12 := fun r hr => hsk.all hf (fun c hc => ⟨(hfc c (List.mem_of_mem_take hc)).1.2, (hfc c (List.mem_of_mem_take hc)).2.2⟩) r (hTB.mem_iff.2 hr)
    have hBl : B.length ≤ 24 := by
      have h1 := hsk.len
      have h2 := hTB.length_eq
      rw [List.length_take] at h1
      omega
    by_cases hlt : 0 ≤ (k : Int) - 1
    · have hk1' : k - 1 + 1 = k := by omega
      have htk : cs.take k = cs.take (k - 1) ++ [cs.getD (k - 1) default] := by
        have h := takeD cs (k - 1) (by omega)
        rwa [hk1'] at h
      rw [htk] at hsk
      obtain ⟨T', hs1, hs2⟩ := hsk.snoc
      have hT' : RowsOk l.length (placesM l keys) T' := hs1.ok (oos (k - 1)) ro
      obtain ⟨f1, f2, f3⟩ := hfc _ (getD_mem cs (k - 1) (by omega))
      obtain ⟨B', hB', hpB⟩ := undo_one ko hT' (oo _ (getD_mem cs (k - 1) (by omega))) hs2 hTB
      obtain ⟨hok, hrc⟩ := rdCs_at c1 m1 j1 (i := (k : Int) - 1) ⟨by omega, by omega⟩
      have hix : ((k : Int) - 1).toNat = k - 1 := by omega
      rw [hix] at hrc
      generalize cs.getD (k - 1) default = c at f1 f2 f3 hB' hrc
      have hkk : ((k - 1 : Nat) : Int) - 1 = (k : Int) - 1 - 1 := by omega
      have hip : (k : Int) - 1 < 12 := by omega
      generalize hii : (k : Int) - 1 = i at *
      generalize hsv : slVV 3 (some (I i)) (some (I (i + 1))) vc = sv at *
      have hturn := fun (w2 : World) (hx : Ext w w2) => turn_spec (w := w2) (hrc.ext hx) (by omega) (by omega)
      have happ := fun (w2 : World) (v : Value) (hx : Ext w w2) (ha : Rd w2 eC a l) (hb : RdT w2 eVal b B) (hv : RdCs w2 v [turnM c]) => apply_spec (w := w2) ha hb (h1.ext hx) hv hl hk1 (fun i hi => (hBf _ (getD_mem B i (by omega))).1)
        (fun i hi => by
          have : i = 0 := by simp at hi; omega
          subst this
          exact ⟨f1.2, f1.1⟩) (by omega) (by simp) (by omega) (hT.ext hx)
      simp only [hB'] at happ
      have op := h1.one
      (have fct := (And.intro @q12 (And.intro @q1 (And.intro @q2 (And.intro @q3 (And.intro @q9 (And.intro @hok @hsv)))))); repeat' (first | ((with_reducible apply G.a); exact rfl) | refine G.reg fun K hK => ?_ | (with_reducible (refine hK _ _ ?_); clear hK K) | (with_reducible (refine hK _ ?_); clear hK K; intro wd hxd; have hS := Sep.xx hxd) | ((first | have hk := hK | have hk := hK2); clear hk; simp (disch := first | exact dis | fail) only [push_cast, ↓reduceIte, Nat.reduceAdd, Nat.reduceLeDiff, Nat.reduceEqDiff, Nat.reduceLT, Int.reduceToNat, fct]) | ((first | refine brO_n ?_ ?_ | refine brQ_n ?_ ?_) <;> intro hb hc <;> first | (with_reducible exact False.elim hc) | (exfalso; omega) | (simp only [hb]; clear hb)) | ((first | refine zalc ?_ | refine zbsl ?_ | ((with_reducible refine gBox ?_); refine zbox ?_)); intro gb wb hS) | ((with_reducible refine gSt ?_); refine zs2 ?_; intro wb hS) | (refine zco 9 (hturn _ hS.x) ?_; rintro vb wb ⟨va, vn, hS2⟩; have hS := hS2.ap; simp only [apps] at hS) | (refine zco 8 (happ _ _ hS.x (Sep.rd hS (by repeat constructor)) (Sep.rdT hS (by repeat constructor) (by repeat constructor)) (rdCs1 (Sep.rd hS (by repeat constructor)) (Sep.rd hS (by repeat constructor)) (Sep.rd hS (by repeat constructor)))) ?_; rintro vb wb ⟨a2, b2, us2, rfl, hS2⟩; have hS := hS2.ap; simp only [apps] at hS) | (with_reducible refine And.intro (a := OT _ _ _ _ _) (b := OT _ _ _ _ _) ?_ ?_) | (refine G.drt mixed fun K hK wd hxd => ?_; have hS := Sep.xx hxd) | with_reducible refine OT_leaf ?_ | (with_reducible (refine hK2 _ ?_); clear hK2 K2; intro wd hxd; have hS := Sep.xx hxd) | with_reducible refine OT_br fun K2 hK2 => ?_ | (refine hK2 _ _ ?_ ?_ <;> clear hK2 K2) | refine G.drg mixed fun K hK => ?_ | (refine G.cn ?_ ?_ <;> intro hc <;> first | (with_reducible exact False.elim hc) | (exfalso; omega) | skip))) <;> (try clear fct)
      all_goals
        have fct := (And.intro @q12 (And.intro @q1 (And.intro @q2 (And.intro @q3 @q9)))); refine ih _ _ ⟨k - 1, a2, b2, us2, T', B', by omega, by rw [hkk]; simp only [push_cast, ↓reduceIte, Nat.reduceAdd, Nat.reduceLeDiff, Nat.reduceEqDiff, Nat.reduceLT, Int.reduceToNat, q12, q1, q2, q3, q9], by exact sf, by exact sf, by exact sf, by exact sf, hs1, hpB, (Sep.sub hS (by repeat first | exact Sub.rfl' | exact Sub.nil0 | (refine Sub.c (by repeat constructor) ?_) | refine Sub.skip ?_))⟩ ?_
        rw [hm]; simp only [push_cast, ↓reduceIte, Nat.reduceAdd, Nat.reduceLeDiff, Nat.reduceEqDiff, Nat.reduceLT, Int.reduceToNat, toZ_i, q12, q1, q2, q3, q9]; omega
    · have hk0 : k = 0 := by omega
      subst hk0
      rw [List.take_zero] at hsk
      cases hsk with
      | nil hp =>
        have hpB := hp.trans hTB
        have oa := (Sep.rd hS (.t .h)).one
        have hl1 : rows.length = B.length := hpB.length_eq
        have hcn : ∀ r ∈ B, countM B r = countM rows r := fun r _ => (count_perm hpB r).symm
        have hr1 := fun (w2 : World) (ha : Rd w2 eC a l) (hb : RdT w2 eVal b B) => ref23_spec (w := w2) ha hb (by omega) (by omega) (fun i hi => by have := (hBf _ (getD_mem B i (by omega))).2; have hd : B.getD i default = B.getD i [] := rfl; rw [hd] at this; omega)
        have hr2 := fun (w2 : World) (hx : Ext w w2) => ref23_spec (w := w2) (h0.ext hx) (h2.ext hx) (by omega) (by omega) (fun i hi => by have := (hf _ (getD_mem rows i (by omega))).2; have hd : rows.getD i default = rows.getD i [] := rfl; rw [hd] at this; omega)
        (have fct := (And.intro @q12 (And.intro @q1 (And.intro @q2 (And.intro @q3 @q9)))); repeat' (first | ((with_reducible apply G.a); exact rfl) | refine G.reg fun K hK => ?_ | (with_reducible (refine hK _ _ ?_); clear hK K) | (with_reducible (refine hK _ ?_); clear hK K; intro wd hxd; have hS := Sep.xx hxd) | ((first | have hk := hK | have hk := hK2); clear hk; simp (disch := first | exact dis | fail) only [push_cast, ↓reduceIte, Nat.reduceAdd, Nat.reduceLeDiff, Nat.reduceEqDiff, Nat.reduceLT, Int.reduceToNat, fct]) | ((first | refine brO_n ?_ ?_ | refine brQ_n ?_ ?_) <;> intro hb hc <;> first | (with_reducible exact False.elim hc) | (exfalso; omega) | (simp only [hb]; clear hb)) | ((first | refine zalc ?_ | refine zbsl ?_ | ((with_reducible refine gBox ?_); refine zbox ?_)); intro gb wb hS) | ((with_reducible refine gSt ?_); refine zs2 ?_; intro wb hS) | ((with_reducible (show CallK _ 11 [.agg #[vl, vr]] _ _ _ _)); refine zco 11 (hr2 _ hS.x) ?_; rintro vb wb ⟨a3, b3, us3, rfl, hS2⟩; have hS := hS2.ap; simp only [apps] at hS) | ((with_reducible (show CallK _ 11 [.agg #[a, b]] _ _ _ _)); refine zco 11 (hr1 _ (Sep.rd hS (by repeat constructor)) (Sep.rdT hS (by repeat constructor) (by repeat constructor))) ?_; rintro vb wb ⟨a2, b2, us2, rfl, hS2⟩; have hS := hS2.ap; simp only [apps] at hS) | (with_reducible refine And.intro (a := OT _ _ _ _ _) (b := OT _ _ _ _ _) ?_ ?_) | (refine G.drt mixed fun K hK wd hxd => ?_; have hS := Sep.xx hxd) | with_reducible refine OT_leaf ?_ | (with_reducible (refine hK2 _ ?_); clear hK2 K2; intro wd hxd; have hS := Sep.xx hxd) | with_reducible refine OT_br fun K2 hK2 => ?_ | (refine hK2 _ _ ?_ ?_ <;> clear hK2 K2) | refine G.drg mixed fun K hK => ?_ | (refine G.cn ?_ ?_ <;> intro hc <;> first | (with_reducible exact False.elim hc) | (exfalso; omega) | skip))) <;> (try clear fct)
        all_goals
          (have fct := (And.intro @q12 (And.intro @q1 (And.intro @q2 (And.intro @q3 @q9)))); repeat' (first | ((with_reducible apply G.a); exact rfl) | refine G.reg fun K hK => ?_ | (with_reducible (refine hK _ _ ?_); clear hK K) | (with_reducible (refine hK _ ?_); clear hK K; intro wd hxd; have hS := Sep.xx hxd) | ((first | have hk := hK | have hk := hK2); clear hk; simp (disch := first | exact dis | fail) only [push_cast, ↓reduceIte, Nat.reduceAdd, Nat.reduceLeDiff, Nat.reduceEqDiff, Nat.reduceLT, Int.reduceToNat, fct]) | ((first | refine brO_n ?_ ?_ | refine brQ_n ?_ ?_) <;> intro hb hc <;> first | (with_reducible exact False.elim hc) | (exfalso; omega) | (simp only [hb]; clear hb)) | ((first | refine zalc ?_ | refine zbsl ?_ | ((with_reducible refine gBox ?_); refine zbox ?_)); intro gb wb hS) | ((with_reducible refine gSt ?_); refine zs2 ?_; intro wb hS) | (refine zcp 10 (same28_spec (l := l.map toR) (ra := B) (rb := rows) (va := a2) (ua := b2) (vb := a3) (ub := b3) (Sep.rd hS (.t (.t (.t .h)))) (Sep.rdT (vs := us2) hS (.t (.t (.t (.t .h)))) (.t (.t (.t (.t (.t .h)))))) (Sep.rd hS .h) (Sep.rdT (vs := us3) hS (.t .h) (.t (.t .h))) (by omega) hl1.symm hcn) ?_; intro wb hS) | (refine zcp 6 (alive_spec _) ?_; intro wb hS) | (refine G.drt mixed fun K hK wd hxd => ?_; have hS := Sep.xx hxd) | with_reducible refine OT_leaf ?_ | (with_reducible (refine hK2 _ ?_); clear hK2 K2; intro wd hxd; have hS := Sep.xx hxd) | with_reducible refine OT_br fun K2 hK2 => ?_ | (refine hK2 _ _ ?_ ?_ <;> clear hK2 K2) | refine G.drg mixed fun K hK => ?_ | (refine G.cn ?_ ?_ <;> intro hc <;> first | (with_reducible exact False.elim hc) | (exfalso; omega) | skip))) <;> (try clear fct)
          all_goals
            (have fct := (And.intro @q12 (And.intro @q1 (And.intro @q2 (And.intro @q3 @q9)))); (first | refine G.r1 ?_ | refine G.r2 ?_ | refine G.r3 ?_ | refine G.r0 ?_ | refine G.d0 ?_); (try simp (disch := first | exact dis | fail) only [push_cast, ↓reduceIte, Nat.reduceAdd, Nat.reduceLeDiff, Nat.reduceEqDiff, Nat.reduceLT, Int.reduceToNat, fct]); (try clear fct))
            (first | exact Sep.xt (by assumption) | exact ⟨rfl, Sep.xt (by assumption)⟩)
def undoC (T : MC) : MC := match c3 with
  | .seq a (.seq b (.seq c (.seq d (.seq e _)))) => .seq a (.seq b (.seq c (.seq d (.seq e T))))
  | _ => .skip
theorem undoC_eq : c3 = undoC undoT := rfl
theorem rd_nilE {α : Type} (E : Enc α) (w : World) : Rd w E (.slice none 0 0) ([] : List α) := ⟨none, 0, rfl, by simp, by simp, by simp, fun h0 => by simp at h0⟩
theorem rdT_nil {α : Type} (E : Enc α) (w : World) : RdT w E (.slice none 0 0) ([] : List (List α)) := ⟨[], rd_nilE _ _, rfl, fun i hi => by simp at hi⟩
theorem rdT_two {w : World} {g : Nat} {t : TypeId} {va vb : Value} {a b : List Val} (h : Blk w g t [va, vb].toArray) (ha : Rd w eVal va a) (hb : Rd w eVal vb b) : RdT w eVal (.slice (some ⟨g, 0, none⟩) 2 2) [a, b] := by
  refine ⟨[va, vb], blk_rd (E := eV) (ys := [va, vb]) h rfl (Nat.le_refl _) (by simp) (fun u hu => ?_), rfl, fun i hi => ?_⟩
  · simp [eV] at hu
    rcases hu with rfl | rfl
    · exact ha.one
    · exact hb.one
  · cases i with
    | zero => exact ha
    | succ i => cases i with
      | zero => exact hb
      | succ i => (exfalso; simp only [List.length_cons, List.length_nil] at hi; omega)
set_option maxHeartbeats 4000000 in
theorem law_undo {vl vr vk vc : Value} {l : List Col} {rows : List (List Val)} {keys : List Str} {cs : List Chg} {w : World} (h0 : Rd w eC vl l) (h2 : RdT w eVal vr rows) (h1 : Rd w eS vk keys) (hc0 : RdCs w vc cs) (hrb : ∀ r ∈ rows, ∀ v ∈ r, -9223372036854775808 ≤ v.n ∧ v.n ≤ 9223372036854775807) (hcb : ∀ c ∈ cs, (∀ v ∈ c.old, -9223372036854775808 ≤ v.n ∧ v.n ≤ 9223372036854775807) ∧ ∀ v ∈ c.new, -9223372036854775808 ≤ v.n ∧ v.n ≤ 9223372036854775807) (hT : Tab w) :
    Pu Tryd.prog 3 #[.agg #[vl, vr], vk, vc] w (.bool true) := by
  refine in3 ?_
  rw [undoC_eq]
  have hS := Sep.start w
  have ol := h0.one
  have ok := h1.one
  have or2 : One vr := by obtain ⟨vs, h, _⟩ := h2; exact h.one
  have hft := fun (w2 : World) (hx : Ext w w2) => fits25_spec (w := w2) (h0.ext hx) (h2.ext hx) (rd_nilE eC w2) (rdT_nil eVal w2) (h1.ext hx)
  have hap := fun (hl hk1 hf hfc hb1 hb2 hll) (w2 : World) (hx : Ext w w2) => apply_spec (w := w2) (h0.ext hx) (h2.ext hx) (h1.ext hx) (hc0.ext hx) hl hk1 hf hfc hb1 hb2 hll (hT.ext hx)
  obtain ⟨xs, c1, m1, j1⟩ := hc0
  have hbd3 := c1.bd
  have oc := c1.one
  have hTl := fun (hll hl hk1 hrl hcl hf hfc) (R : List (List Val)) (us : List Value) (a b : Value) (g3 g9 n : Nat) (wl : World) (u : Fr) => @undo_tail vl vr vk vc a b l rows R keys cs us g3 g9 n w wl u h0 h2 h1 xs c1 m1 j1 hll hl hk1 hrl hcl hf hfc hT
  generalize undoT = T2 at hTl ⊢
  unfold undoC c3
  dsimp only
  cases hF : fits25M l rows [] [] keys
  · rw [hF] at hft
    repeat' (first | ((with_reducible apply G.a); exact rfl) | refine G.reg fun K hK => ?_ | (with_reducible (refine hK _ _ ?_); clear hK K) | (with_reducible (refine hK _ ?_); clear hK K; intro wd hxd; have hS := Sep.xx hxd) | ((first | have hk := hK | have hk := hK2); clear hk; simp (disch := first | exact dis | fail) only [push_cast, ↓reduceIte, Nat.reduceAdd, Nat.reduceLeDiff, Nat.reduceEqDiff, Nat.reduceLT, Int.reduceToNat, fct]) | ((first | refine brO_n ?_ ?_ | refine brQ_n ?_ ?_) <;> intro hb hc <;> first | (with_reducible exact False.elim hc) | (exfalso; omega) | (simp only [hb]; clear hb)) | ((first | refine zalc ?_ | refine zbsl ?_ | ((with_reducible refine gBox ?_); refine zbox ?_)); intro gb wb hS) | ((with_reducible refine gSt ?_); refine zs2 ?_; intro wb hS) | (refine zcp 5 (hft _ hS.x) ?_; intro wb hS) | (refine zcp 6 (alive_spec _) ?_; intro wb hS) | (refine G.drt mixed fun K hK wd hxd => ?_; have hS := Sep.xx hxd) | with_reducible refine OT_leaf ?_ | (with_reducible (refine hK2 _ ?_); clear hK2 K2; intro wd hxd; have hS := Sep.xx hxd) | with_reducible refine OT_br fun K2 hK2 => ?_ | (refine hK2 _ _ ?_ ?_ <;> clear hK2 K2) | refine G.drg mixed fun K hK => ?_ | (refine G.cn ?_ ?_ <;> intro hc <;> first | (with_reducible exact False.elim hc) | (exfalso; omega) | skip))
    all_goals
      (first | refine G.r1 ?_ | refine G.r2 ?_ | refine G.r3 ?_ | refine G.r0 ?_ | refine G.d0 ?_); (try simp (disch := first | exact dis | fail) only [push_cast, ↓reduceIte, Nat.reduceAdd, Nat.reduceLeDiff, Nat.reduceEqDiff, Nat.reduceLT, Int.reduceToNat, fct])
      (first | exact Sep.xt (by assumption) | exact ⟨rfl, Sep.xt (by assumption)⟩)
  rw [hF] at hft
  by_cases h12 : (cs.length : Int) ≤ 12
  rotate_left
  · (have fct := @m1; repeat' (first | ((with_reducible apply G.a); exact rfl) | refine G.reg fun K hK => ?_ | (with_reducible (refine hK _ _ ?_); clear hK K) | (with_reducible (refine hK _ ?_); clear hK K; intro wd hxd; have hS := Sep.xx hxd) | ((first | have hk := hK | have hk := hK2); clear hk; simp (disch := first | exact dis | fail) only [push_cast, ↓reduceIte, Nat.reduceAdd, Nat.reduceLeDiff, Nat.reduceEqDiff, Nat.reduceLT, Int.reduceToNat, fct]) | ((first | refine brO_n ?_ ?_ | refine brQ_n ?_ ?_) <;> intro hb hc <;> first | (with_reducible exact False.elim hc) | (exfalso; omega) | (simp only [hb]; clear hb)) | ((first | refine zalc ?_ | refine zbsl ?_ | ((with_reducible refine gBox ?_); refine zbox ?_)); intro gb wb hS) | ((with_reducible refine gSt ?_); refine zs2 ?_; intro wb hS) | (refine zcp 5 (hft _ hS.x) ?_; intro wb hS) | (refine zcp 6 (alive_spec _) ?_; intro wb hS) | (refine G.drt mixed fun K hK wd hxd => ?_; have hS := Sep.xx hxd) | with_reducible refine OT_leaf ?_ | (with_reducible (refine hK2 _ ?_); clear hK2 K2; intro wd hxd; have hS := Sep.xx hxd) | with_reducible refine OT_br fun K2 hK2 => ?_ | (refine hK2 _ _ ?_ ?_ <;> clear hK2 K2) | refine G.drg mixed fun K hK => ?_ | (refine G.cn ?_ ?_ <;> intro hc <;> first | (with_reducible exact False.elim hc) | (exfalso; omega) | skip))) <;> (try clear fct)
    all_goals
      (first | refine G.r1 ?_ | refine G.r2 ?_ | refine G.r3 ?_ | refine G.r0 ?_ | refine G.d0 ?_); (try simp (disch := first | exact dis | fail) only [push_cast, ↓reduceIte, Nat.reduceAdd, Nat.reduceLeDiff, Nat.reduceEqDiff, Nat.reduceLT, Int.reduceToNat, fct])
      (first | exact Sep.xt (by assumption) | exact ⟨rfl, Sep.xt (by assumption)⟩)
  unfold fits25M at hF
  rw [Bool.and_eq_true, Bool.and_eq_true, Bool.and_eq_true, decide_eq_true_eq] at hF
  obtain ⟨⟨l1, l2⟩, l3, l4⟩ := few23_len hF.2.1
  have hkl := hF.2.2.2
  (have fct := @m1; repeat' (first | ((with_reducible apply G.a); exact rfl) | refine G.reg fun K hK => ?_ | (with_reducible (refine hK _ _ ?_); clear hK K) | (with_reducible (refine hK _ ?_); clear hK K; intro wd hxd; have hS := Sep.xx hxd) | ((first | have hk := hK | have hk := hK2); clear hk; simp (disch := first | exact dis | fail) only [push_cast, ↓reduceIte, Nat.reduceAdd, Nat.reduceLeDiff, Nat.reduceEqDiff, Nat.reduceLT, Int.reduceToNat, fct]) | ((first | refine brO_n ?_ ?_ | refine brQ_n ?_ ?_) <;> intro hb hc <;> first | (with_reducible exact False.elim hc) | (exfalso; omega) | (simp only [hb]; clear hb)) | ((first | refine zalc ?_ | refine zbsl ?_ | ((with_reducible refine gBox ?_); refine zbox ?_)); intro gb wb hS) | ((with_reducible refine gSt ?_); refine zs2 ?_; intro wb hS) | (refine zcp 5 (hft _ hS.x) ?_; intro wb hS) | (refine zcp 6 (alive_spec _) ?_; intro wb hS) | (refine G.drt mixed fun K hK wd hxd => ?_; have hS := Sep.xx hxd) | with_reducible refine OT_leaf ?_ | (with_reducible (refine hK2 _ ?_); clear hK2 K2; intro wd hxd; have hS := Sep.xx hxd) | with_reducible refine OT_br fun K2 hK2 => ?_ | (refine hK2 _ _ ?_ ?_ <;> clear hK2 K2) | refine G.drg mixed fun K hK => ?_ | (refine G.cn ?_ ?_ <;> intro hc <;> first | (with_reducible exact False.elim hc) | (exfalso; omega) | skip))) <;> (try clear fct)
  all_goals
  have hfr : ∀ r ∈ rows, FineV r ∧ r.length ≤ 12 := fun r hr => ⟨fun v hv => by have := (l4 r hr).2 v hv; have := hrb r hr v hv; omega, (l4 r hr).1⟩
  refine G.loop (fun r w' => ∃ (k : Nat) (g3 : Nat), k ≤ xs.length ∧ r 29 = I k ∧ r 28 = I xs.length ∧ r 27 = vc ∧ r 1 = vk ∧ r 2 = vc ∧ r 3 = .pointer (some ⟨g3, 0, none⟩) ∧ (∀ i, i < k → few23M [] [(cs.getD i default).old, (cs.getD i default).new] = true) ∧ Sep w w' [boxC g3 25 [vl, vr]]) (fun r _ => xs.length - toN (r 29)) ?_ ?_
  · have fct := @m1; exact ⟨0, _, Nat.zero_le _, by exact sf, by exact sf, by exact sf, by exact sf, by exact sf, by exact sf, fun i hi => by omega, hS⟩
  · clear hS
    rintro u wl ⟨k, g3, hk, q29, q28, q27, q1, q2, q3, hfw, hS⟩ ih
    have hm : toN (u 29) = k := by rw [q29]; simp [toN]
    have c1k := c1.ext hS.x
    by_cases hlt : (k : Int) < xs.length
    · obtain ⟨y1, y2, y3⟩ := j1 k (by omega)
      have hfk : few23M [] [(cs.getD k default).old, (cs.getD k default).new] = true → ∀ i, i < k + 1 → few23M [] [(cs.getD i default).old, (cs.getD i default).new] = true := fun h i hi => by
        by_cases e : i = k
        · rw [e]; exact h
        · exact hfw i (by omega)
      generalize cs.getD k default = c at y1 y2 y3 hfk
      generalize hx : xs.getD k default = x at *
      obtain ⟨xk, xo, xn⟩ := x
      simp only [] at y1 y2 y3
      subst y1
      have ho := y2.one
      have hn := y3.one
      have hfw2 := fun (w2 : World) (g : Nat) (hx : Ext w w2) (hb : Blk w2 g 32 [xo, xn].toArray) => few23_spec (w := w2) (rd_nilE eC w2) (rdT_two hb (y2.ext hx) (y3.ext hx))
      cases hq : few23M [] [c.old, c.new]
      all_goals
        rw [hq] at hfw2
      · (have fct := (And.intro @q29 (And.intro @q28 (And.intro @q27 (And.intro @q1 (And.intro @q2 (And.intro @q3 @hx)))))); repeat' (first | ((with_reducible apply G.a); exact rfl) | refine G.reg fun K hK => ?_ | (with_reducible (refine hK _ _ ?_); clear hK K) | (with_reducible (refine hK _ ?_); clear hK K; intro wd hxd; have hS := Sep.xx hxd) | ((first | have hk := hK | have hk := hK2); clear hk; simp (disch := first | exact dis | fail) only [push_cast, ↓reduceIte, Nat.reduceAdd, Nat.reduceLeDiff, Nat.reduceEqDiff, Nat.reduceLT, Int.reduceToNat, fct]) | ((first | refine brO_n ?_ ?_ | refine brQ_n ?_ ?_) <;> intro hb hc <;> first | (with_reducible exact False.elim hc) | (exfalso; omega) | (simp only [hb]; clear hb)) | ((first | refine zalc ?_ | refine zbsl ?_ | ((with_reducible refine gBox ?_); refine zbox ?_)); intro gb wb hS) | ((with_reducible refine gSt ?_); refine zs2 ?_; intro wb hS) | (refine zcp 7 (hfw2 _ _ hS.x (Sep.blk hS (by repeat constructor))) ?_; intro wb hS) | (refine zcp 6 (alive_spec _) ?_; intro wb hS) | (refine G.drt mixed fun K hK wd hxd => ?_; have hS := Sep.xx hxd) | with_reducible refine OT_leaf ?_ | (with_reducible (refine hK2 _ ?_); clear hK2 K2; intro wd hxd; have hS := Sep.xx hxd) | with_reducible refine OT_br fun K2 hK2 => ?_ | (refine hK2 _ _ ?_ ?_ <;> clear hK2 K2) | refine G.drg mixed fun K hK => ?_ | (refine G.cn ?_ ?_ <;> intro hc <;> first | (with_reducible exact False.elim hc) | (exfalso; omega) | skip))) <;> (try clear fct)
        all_goals
          (have fct := (And.intro @q29 (And.intro @q28 (And.intro @q27 (And.intro @q1 (And.intro @q2 @q3))))); (first | refine G.r1 ?_ | refine G.r2 ?_ | refine G.r3 ?_ | refine G.r0 ?_ | refine G.d0 ?_); (try simp (disch := first | exact dis | fail) only [push_cast, ↓reduceIte, Nat.reduceAdd, Nat.reduceLeDiff, Nat.reduceEqDiff, Nat.reduceLT, Int.reduceToNat, fct]); (try clear fct))
          (first | exact Sep.xt (by assumption) | exact ⟨rfl, Sep.xt (by assumption)⟩)
      · (have fct := (And.intro @q29 (And.intro @q28 (And.intro @q27 (And.intro @q1 (And.intro @q2 (And.intro @q3 @hx)))))); repeat' (first | ((with_reducible apply G.a); exact rfl) | refine G.reg fun K hK => ?_ | (with_reducible (refine hK _ _ ?_); clear hK K) | (with_reducible (refine hK _ ?_); clear hK K; intro wd hxd; have hS := Sep.xx hxd) | ((first | have hk := hK | have hk := hK2); clear hk; simp (disch := first | exact dis | fail) only [push_cast, ↓reduceIte, Nat.reduceAdd, Nat.reduceLeDiff, Nat.reduceEqDiff, Nat.reduceLT, Int.reduceToNat, fct]) | ((first | refine brO_n ?_ ?_ | refine brQ_n ?_ ?_) <;> intro hb hc <;> first | (with_reducible exact False.elim hc) | (exfalso; omega) | (simp only [hb]; clear hb)) | ((first | refine zalc ?_ | refine zbsl ?_ | ((with_reducible refine gBox ?_); refine zbox ?_)); intro gb wb hS) | ((with_reducible refine gSt ?_); refine zs2 ?_; intro wb hS) | (refine zcp 7 (hfw2 _ _ hS.x (Sep.blk hS (by repeat constructor))) ?_; intro wb hS) | (refine G.drt mixed fun K hK wd hxd => ?_; have hS := Sep.xx hxd) | with_reducible refine OT_leaf ?_ | (with_reducible (refine hK2 _ ?_); clear hK2 K2; intro wd hxd; have hS := Sep.xx hxd) | with_reducible refine OT_br fun K2 hK2 => ?_ | (refine hK2 _ _ ?_ ?_ <;> clear hK2 K2) | refine G.drg mixed fun K hK => ?_ | (refine G.cn ?_ ?_ <;> intro hc <;> first | (with_reducible exact False.elim hc) | (exfalso; omega) | skip))) <;> (try clear fct)
        all_goals
          have fct := (And.intro @q29 (And.intro @q28 (And.intro @q27 (And.intro @q1 (And.intro @q2 @q3))))); refine ih _ _ ⟨k + 1, g3, by omega, by exact sf, by exact sf, by exact sf, by exact sf, by exact sf, by exact sf, hfk hq, (Sep.sub hS (by repeat first | exact Sub.rfl' | exact Sub.nil0 | (refine Sub.c (by repeat constructor) ?_) | refine Sub.skip ?_))⟩ ?_
          rw [hm]; simp only [push_cast, ↓reduceIte, Nat.reduceAdd, Nat.reduceLeDiff, Nat.reduceEqDiff, Nat.reduceLT, Int.reduceToNat, toN_i, q29, q28, q27, q1, q2, q3]; omega
    · have hfc : ∀ c ∈ cs, (FineV c.old ∧ FineV c.new) ∧ c.old.length ≤ 12 ∧ c.new.length ≤ 12 := fun c hcm => by
        obtain ⟨i, hi, rfl⟩ := List.mem_iff_getElem.1 hcm
        have hg : cs.getD i default = cs[i] := by rw [List.getD_eq_getElem?_getD, List.getElem?_eq_getElem hi]; rfl
        have h := hfw i (by omega)
        rw [hg] at h
        obtain ⟨_, _, h3⟩ := few23_len h
        have h4 := h3 cs[i].old (by simp)
        have h5 := h3 cs[i].new (by simp)
        have h6 := hcb cs[i] hcm
        exact ⟨⟨fun v hv => by have := h4.2 v hv; have := h6.1 v hv; omega, fun v hv => by have := h5.2 v hv; have := h6.2 v hv; omega⟩, h4.1, h5.1⟩
      have hfcc : FineC cs := fun i hi => (hfc _ (getD_mem cs i (by omega))).1
      have hl2 : ∀ c ∈ l, c.name.length ≤ 100000000000 := fun c hc => by have := l2 c hc; omega
      have happ := hap hl2 (by omega) (fun i hi => (hfr _ (getD_mem rows i (by omega))).1) hfcc (by omega) (by omega) (by omega)
      have hmo := fun R => applyM_ok (l := l) (rows := rows) (R := R) (keys := keys) (cs := cs)
      clear ih hap
      cases hM : applyM l rows keys cs with
      | error p =>
        rw [hM] at happ
        obtain ⟨p1, p2⟩ := p
        (have fct := (And.intro @q29 (And.intro @q28 (And.intro @q27 (And.intro @q1 (And.intro @q2 @q3))))); repeat' (first | ((with_reducible apply G.a); exact rfl) | refine G.reg fun K hK => ?_ | (with_reducible (refine hK _ _ ?_); clear hK K) | (with_reducible (refine hK _ ?_); clear hK K; intro wd hxd; have hS := Sep.xx hxd) | ((first | have hk := hK | have hk := hK2); clear hk; simp (disch := first | exact dis | fail) only [push_cast, ↓reduceIte, Nat.reduceAdd, Nat.reduceLeDiff, Nat.reduceEqDiff, Nat.reduceLT, Int.reduceToNat, fct]) | ((first | refine brO_n ?_ ?_ | refine brQ_n ?_ ?_) <;> intro hb hc <;> first | (with_reducible exact False.elim hc) | (exfalso; omega) | (simp only [hb]; clear hb)) | ((first | refine zalc ?_ | refine zbsl ?_ | ((with_reducible refine gBox ?_); refine zbox ?_)); intro gb wb hS) | ((with_reducible refine gSt ?_); refine zs2 ?_; intro wb hS) | (refine zco 8 (happ _ hS.x) ?_; (rintro vb wb ⟨hpe, rfl, hxx⟩; have hS := Sep.xx hxx)) | (refine zcp 6 (alive_spec _) ?_; intro wb hS) | (refine G.drt mixed fun K hK wd hxd => ?_; have hS := Sep.xx hxd) | with_reducible refine OT_leaf ?_ | (with_reducible (refine hK2 _ ?_); clear hK2 K2; intro wd hxd; have hS := Sep.xx hxd) | with_reducible refine OT_br fun K2 hK2 => ?_ | (refine hK2 _ _ ?_ ?_ <;> clear hK2 K2) | refine G.drg mixed fun K hK => ?_ | (refine G.cn ?_ ?_ <;> intro hc <;> first | (with_reducible exact False.elim hc) | (exfalso; omega) | skip))) <;> (try clear fct)
        all_goals
          (have fct := (And.intro @q29 (And.intro @q28 (And.intro @q27 (And.intro @q1 (And.intro @q2 @q3))))); (first | refine G.r1 ?_ | refine G.r2 ?_ | refine G.r3 ?_ | refine G.r0 ?_ | refine G.d0 ?_); (try simp (disch := first | exact dis | fail) only [push_cast, ↓reduceIte, Nat.reduceAdd, Nat.reduceLeDiff, Nat.reduceEqDiff, Nat.reduceLT, Int.reduceToNat, fct]); (try clear fct))
          (first | exact Sep.xt (by assumption) | exact ⟨rfl, Sep.xt (by assumption)⟩)
      | ok R =>
        rw [hM] at happ
        obtain ⟨ko, ro, oo, hst⟩ := hmo R hM
        (have fct := (And.intro @q29 (And.intro @q28 (And.intro @q27 (And.intro @q1 (And.intro @q2 @q3))))); repeat' (first | ((with_reducible apply G.a); exact rfl) | refine G.reg fun K hK => ?_ | (with_reducible (refine hK _ _ ?_); clear hK K) | (with_reducible (refine hK _ ?_); clear hK K; intro wd hxd; have hS := Sep.xx hxd) | ((first | have hk := hK | have hk := hK2); clear hk; simp (disch := first | exact dis | fail) only [push_cast, ↓reduceIte, Nat.reduceAdd, Nat.reduceLeDiff, Nat.reduceEqDiff, Nat.reduceLT, Int.reduceToNat, fct]) | ((first | refine brO_n ?_ ?_ | refine brQ_n ?_ ?_) <;> intro hb hc <;> first | (with_reducible exact False.elim hc) | (exfalso; omega) | (simp only [hb]; clear hb)) | ((first | refine zalc ?_ | refine zbsl ?_ | ((with_reducible refine gBox ?_); refine zbox ?_)); intro gb wb hS) | ((with_reducible refine gSt ?_); refine zs2 ?_; intro wb hS) | (refine zco 8 (happ _ hS.x) ?_; rintro vb wb ⟨a, b, us, rfl, hS2⟩; have hS := hS2.ap; simp only [apps] at hS) | (refine G.drt mixed fun K hK wd hxd => ?_; have hS := Sep.xx hxd) | with_reducible refine OT_leaf ?_ | (with_reducible (refine hK2 _ ?_); clear hK2 K2; intro wd hxd; have hS := Sep.xx hxd) | with_reducible refine OT_br fun K2 hK2 => ?_ | (refine hK2 _ _ ?_ ?_ <;> clear hK2 K2) | refine G.drg mixed fun K hK => ?_ | (refine G.cn ?_ ?_ <;> intro hc <;> first | (with_reducible exact False.elim hc) | (exfalso; omega) | skip))) <;> (try clear fct)
        all_goals
          exact hTl (by omega) hl2 (by omega) (by omega) (by omega) hfr hfc R us a b g3 _ _ _ _ ko ro oo hst (by simp only [push_cast, ↓reduceIte, Nat.reduceAdd, Nat.reduceLeDiff, Nat.reduceEqDiff, Nat.reduceLT, Int.reduceToNat, q29, q28, q27, q1, q2, q3]) (by simp only [push_cast, ↓reduceIte, Nat.reduceAdd, Nat.reduceLeDiff, Nat.reduceEqDiff, Nat.reduceLT, Int.reduceToNat, q29, q28, q27, q1, q2, q3]) (by simp only [push_cast, ↓reduceIte, Nat.reduceAdd, Nat.reduceLeDiff, Nat.reduceEqDiff, Nat.reduceLT, Int.reduceToNat, q29, q28, q27, q1, q2, q3]) (by simp only [push_cast, ↓reduceIte, Nat.reduceAdd, Nat.reduceLeDiff, Nat.reduceEqDiff, Nat.reduceLT, Int.reduceToNat, q29, q28, q27, q1, q2, q3] <;> rfl) (Sep.sub hS (by repeat first | exact Sub.rfl' | exact Sub.nil0 | (refine Sub.c (by repeat constructor) ?_) | refine Sub.skip ?_))
end Go.Proofs.YtjajihaeoolefaaDoor
