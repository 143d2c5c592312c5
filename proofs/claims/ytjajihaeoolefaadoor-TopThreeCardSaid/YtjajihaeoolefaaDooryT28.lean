/- Texts of the proof, joined. -/
import Derived.Test.YtjajihaeoolefaaDooryP28
import Derived.Test.YtjajihaeoolefaaDooryY28
import Derived.Test.YtjajihaeoolefaaDooryR25
import Derived.Test.YtjajihaeoolefaaDooryE25
import Derived.Test.YtjajihaeoolefaaDooryG25
import Derived.Test.YtjajihaeoolefaaDooryA06
namespace Go.Proofs.YtjajihaeoolefaaDoor
set_option linter.unusedSimpArgs false
set_option linter.unusedVariables false
attribute [local irreducible] SemK UnitK StK AlcK BslK CallK CallV Instr.box Builtin.append_ Instr.makeSlice Instr.makeMap Instr.lookup Instr.mapUpdate Instr.sliceAt convert
open Go.RowKit
def GoodR (r : List Val) : Prop := FineV r ∧ r.length ≤ 12
theorem goodR_nil : GoodR [] := ⟨fun v hv => by simp at hv, by simp⟩
theorem dif_good {ps : List Int} {ra rb : List (List Val)} (ha : KeyD ps ra) (hb : KeyD ps rb) (qa : ∀ r ∈ ra, GoodR r) (qb : ∀ r ∈ rb, GoodR r) {c : Chg} (h : c ∈ difM ps ra rb) : GoodR c.old ∧ GoodR c.new := by
  obtain ⟨m, h⟩ := (dif_mem ha hb c).1 h
  cases e1 : getR ps ra m with
  | none =>
    cases e2 : getR ps rb m with
    | none => rw [e1, e2] at h; cases h
    | some s => rw [e1, e2] at h; cases h; exact ⟨goodR_nil, qb s (getR_some e2).1⟩
  | some r =>
    cases e2 : getR ps rb m with
    | none => rw [e1, e2] at h; cases h; exact ⟨qa r (getR_some e1).1, goodR_nil⟩
    | some s =>
      rw [e1, e2] at h
      simp only [chgM] at h
      split at h
      · cases h
      · cases h; exact ⟨qa r (getR_some e1).1, qb s (getR_some e2).1⟩
theorem dif_len (ps : List Int) (ra rb : List (List Val)) : (difM ps ra rb).length ≤ ra.length + rb.length := by
  unfold difM
  rw [List.length_append]
  have h1 := List.length_filterMap_le (dif1 ps rb) ra
  have h2 := List.length_filterMap_le (dif2 ps ra) rb
  omega
theorem count_permT {a b : List (List Val)} (h : a.Perm b) (r : List Val) : countM a r = countM b r := h.countP_eq _
attribute [local irreducible] accC boxC frzC frzG frzQ
def c4 : MC := (.seq (.reg [qq 1 (.raw (.box 48 (.tmp 0)) 0), qq 2 (.mv (kb false))]) (.seq (.seq (.reg [qq 15 (.fad 0 (.tmp 1)), qq 16 (.ld (.some 2) (.tmp 15)), qq 17 (.fad 2 (.tmp 1)), qq 18 (.ld (.some 2) (.tmp 17)), qq 19 (.fad 6 (.tmp 1)), qq 20 (.ld none (.tmp 19)), qq 21 (.bld [(.slice none 0 0), (.slice none 0 0), (.slice none 0 0), (.slice none 0 0), (.slice none 0 0)] [⟨0, ⟨2, (.tmp 16)⟩⟩, ⟨2, ⟨2, (.tmp 18)⟩⟩, ⟨4, ⟨1, (.tmp 20)⟩⟩]), qq 22 (.call 5 [(.tmp 21)]), qq 23 (.un .not (.tmp 22)), qm 24 23, qf 24 25 (.fad 4 (.tmp 1)), qf 24 26 (.ld (.some 2) (.tmp 25)), qf 24 27 (.fad 6 (.tmp 1)), qf 24 28 (.ld none (.tmp 27)), qf 24 29 (.bld [(.slice none 0 0), (.slice none 0 0), (.slice none 0 0), (.slice none 0 0), (.slice none 0 0)] [⟨0, ⟨2, (.tmp 26)⟩⟩, ⟨4, ⟨1, (.tmp 28)⟩⟩]), qf 24 30 (.call 5 [(.tmp 29)]), qf 24 31 (.un .not (.tmp 30)), qq 32 (.pick (.tmp 24) (kb true) (.tmp 31))]) (.cond (.tmp 32) (.seq (.reg [qq 33 (.call 6 []), qm 2 33]) .ret) .skip)) (.seq (.reg [qq 35 (.fad 0 (.tmp 1)), qq 36 (.ld (.some 2) (.tmp 35)), qq 37 (.fad 2 (.tmp 1)), qq 38 (.ld (.some 2) (.tmp 37)), qq 39 (.fad 6 (.tmp 1)), qq 40 (.ld none (.tmp 39)), qq 41 (.call 12 [(.tmp 36), (.tmp 38), (.tmp 40)]), qm 34 41, qq 42 (.ext 0 (.tmp 34)), qq 43 (.ext 1 (.tmp 34)), qm 3 42, qm 4 43]) (.seq (.reg [qq 45 (.fad 2 (.tmp 1)), qq 46 (.ld (.some 2) (.tmp 45)), qq 47 (.fad 4 (.tmp 1)), qq 48 (.ld (.some 2) (.tmp 47)), qq 49 (.fad 6 (.tmp 1)), qq 50 (.ld none (.tmp 49)), qq 51 (.call 12 [(.tmp 46), (.tmp 48), (.tmp 50)]), qm 44 51, qq 52 (.ext 0 (.tmp 44)), qq 53 (.ext 1 (.tmp 44)), qm 5 52, qm 6 53]) (.seq (.seq (.reg [qm 54 4, qq 55 (.bin .neq (.tmp 54) (ki 0)), qm 56 55, qmf 56 57 6, qf 56 58 (.bin .neq (.tmp 57) (ki 0)), qq 59 (.pick (.tmp 56) (kb true) (.tmp 58))]) (.cond (.tmp 59) (.seq (.reg [qq 60 (.call 6 []), qm 2 60]) .ret) .skip)) (.seq (.reg [qq 62 (.fad 0 (.tmp 1)), qq 63 (.ld (.some 2) (.tmp 62)), qq 64 (.fad 4 (.tmp 1)), qq 65 (.ld (.some 2) (.tmp 64)), qq 66 (.fad 6 (.tmp 1)), qq 67 (.ld none (.tmp 66)), qq 68 (.call 12 [(.tmp 63), (.tmp 65), (.tmp 67)]), qm 61 68, qq 69 (.ext 0 (.tmp 61)), qq 70 (.ext 1 (.tmp 61)), qm 7 69, qm 8 70]) (.seq (.reg [qq 72 (.fad 0 (.tmp 1)), qq 73 (.fad 0 (.tmp 72)), qq 74 (.ld none (.tmp 73)), qq 75 (.fad 6 (.tmp 1)), qq 76 (.ld none (.tmp 75)), qm 77 3, qm 78 5, qq 79 (.call 13 [(.tmp 74), (.tmp 76), (.tmp 77), (.tmp 78)]), qm 71 79, qq 80 (.ext 0 (.tmp 71)), qq 81 (.ext 1 (.tmp 71)), qq 82 (.ext 2 (.tmp 71)), qm 9 80, qm 10 81, qm 11 82]) (.seq (.reg [qq 84 (.fad 0 (.tmp 1)), qq 85 (.ld (.some 2) (.tmp 84)), qq 86 (.fad 6 (.tmp 1)), qq 87 (.ld none (.tmp 86)), qm 88 9, qq 89 (.call 8 [(.tmp 85), (.tmp 87), (.tmp 88)]), qm 83 89, qq 90 (.ext 0 (.tmp 83)), qq 91 (.ext 1 (.tmp 83)), qq 92 (.ext 2 (.tmp 83)), qq 12 (.alc 25 [(.slice none 0 0), (.slice none 0 0)]), qn (.st 2 (.tmp 12) (.tmp 90)), qm 13 91, qm 14 92]) (.seq (.seq (.reg [qm 93 8, qq 94 (.bin .neq (.tmp 93) (ki 0)), qm 95 94, qmf 95 96 11, qf 95 97 (.bin .neq (.tmp 96) (ki 0)), qq 98 (.pick (.tmp 95) (kb true) (.tmp 97)), qm 99 98, qmf 99 100 14, qf 99 101 (.bin .neq (.tmp 100) (ki 0)), qq 102 (.pick (.tmp 99) (kb true) (.tmp 101)), qm 103 102, qmf 103 104 9, qf 103 105 (.len (.tmp 104)), qmf 103 106 7, qf 103 107 (.len (.tmp 106)), qf 103 108 (.bin .neq (.tmp 105) (.tmp 107)), qq 109 (.pick (.tmp 103) (kb true) (.tmp 108))]) (.cond (.tmp 109) (.seq (.reg [qq 2 (.mv (kb false))]) .ret) .skip)) (.seq (.drg [qm 110 9, qq 111 (.call 15 [(.tmp 110)]), qm 112 7, qq 113 (.call 15 [(.tmp 112)]), qq 114 (.call 14 [(.tmp 111), (.tmp 113)]), qm 115 114, qt 115 116 (.ld (.some 2) (.tmp 12)), qt 115 117 (.call 11 [(.tmp 116)]), qt 115 118 (.fad 4 (.tmp 1)), qt 115 119 (.ld (.some 2) (.tmp 118)), qt 115 120 (.call 11 [(.tmp 119)]), qt 115 121 (.call 10 [(.tmp 117), (.tmp 120)]), qq 122 (.pick (.tmp 115) (.tmp 121) (kb false)), qm 123 122, qt 123 124 (.call 6 []), qq 125 (.pick (.tmp 123) (.tmp 124) (kb false)), qm 2 125] (.some (.br [qm 110 9, qm 112 7, qq 111 (.call 15 [(.tmp 110)]), qq 113 (.call 15 [(.tmp 112)]), qq 114 (.call 14 [(.tmp 111), (.tmp 113)]), qm 115 114, qt 115 118 (.fad 4 (.tmp 1))] (.br [qt 115 116 (.ld (.some 2) (.tmp 12))] (.leaf [qt 115 117 (.call 11 [(.tmp 116)]), qt 115 119 (.ld (.some 2) (.tmp 118)), qt 115 120 (.call 11 [(.tmp 119)]), qt 115 121 (.call 10 [(.tmp 117), (.tmp 120)]), qq 122 (.pick (.tmp 115) (.tmp 121) (kb false)), qm 123 122, qt 123 124 (.call 6 []), qq 125 (.pick (.tmp 123) (.tmp 124) (kb false)), qm 2 125]) (.leaf [qt 115 119 (.ld (.some 2) (.tmp 118)), qt 115 117 (.call 11 [(.tmp 116)]), qt 115 120 (.call 11 [(.tmp 119)]), qt 115 121 (.call 10 [(.tmp 117), (.tmp 120)]), qq 122 (.pick (.tmp 115) (.tmp 121) (kb false)), qm 123 122, qt 123 124 (.call 6 []), qq 125 (.pick (.tmp 123) (.tmp 124) (kb false)), qm 2 125])) (.leaf [qt 115 119 (.ld (.some 2) (.tmp 118)), qt 115 116 (.ld (.some 2) (.tmp 12)), qt 115 117 (.call 11 [(.tmp 116)]), qt 115 120 (.call 11 [(.tmp 119)]), qt 115 121 (.call 10 [(.tmp 117), (.tmp 120)]), qq 122 (.pick (.tmp 115) (.tmp 121) (kb false)), qm 123 122, qt 123 124 (.call 6 []), qq 125 (.pick (.tmp 123) (.tmp 124) (kb false)), qm 2 125])))) .ret))))))))))
theorem k4 : conv Tryd.prog 126 (Tryd.f4.body.getD .skip) = c4 := by kernel_rfl
theorem in4 {a0 : Value} {w : World} {R : Value → World → Prop} (h : G Tryd.prog Tryd.f4 126 [.c c4] R (frL 0 [a0]) w) : Ret Tryd.prog 4 #[a0] w R := G.enter (args := [a0]) Tryd.func4 (c := Tryd.f4.body.getD .skip) (by kernel_rfl) (by kernel_rfl) (by simp) k4 h
def threeT : MC := match c4 with
  | .seq _ (.seq _ (.seq _ (.seq _ (.seq _ (.seq _ (.seq _ (.seq _ (.seq _ t)))))))) => t
  | _ => .skip
set_option maxHeartbeats 4000000 in
theorem three_tail {va ua vb ub vc uc vk a b vq vd : Value} {l : List Col} {rc T : List (List Val)} {D E : List Chg} {vs1 vs2 : List (Int × Value × Value)} {us : List Value} {g1 g12 n : Nat} {w wl : World} {u : Fr} (h0 : Rd w eC vc l) (h2 : RdT w eVal uc rc)
    (hll : l.length ≤ 12) (hrl : rc.length ≤ 12) (hf : ∀ r ∈ rc, GoodR r) (hTp : T.Perm rc) (hDE : D.Perm E) (hE : ∀ c ∈ E, GoodR c.old ∧ GoodR c.new) (hEl : E.length ≤ 24)
    (q1 : u 1 = .pointer (some ⟨g1, 0, none⟩)) (q7 : u 7 = vd) (q9 : u 9 = vq) (q12 : u 12 = .pointer (some ⟨g12, 0, none⟩))
    (hS : Sep w wl [accC vq 34 eCg vs1, frzG vs1 D, accC vd 34 eCg vs2, frzG vs2 E, boxC g12 25 [a, b], accC a 88 eC l, accC b 32 eV us, frzC eVal us T, boxC g1 48 [va, ua, vb, ub, vc, uc, vk]]) :
    G Tryd.prog Tryd.f4 n [.c threeT] (fun v w' => v = .bool true ∧ Ext w w') u wl := by
  unfold threeT c4
  dsimp only
  have hTl : T.length = rc.length := hTp.length_eq
  have hDl : D.length = E.length := hDE.length_eq
  have oa := (Sep.rd hS (.t (.t (.t (.t (.t .h)))))).one
  have ob := (Sep.rd hS (.t (.t (.t (.t (.t (.t .h))))))).one
  have oc := h0.one
  have oc2 : One uc := by obtain ⟨vs, h, _⟩ := h2; exact h.one
  have hD : ∀ c ∈ D, GoodR c.old ∧ GoodR c.new := fun c hc => hE c (hDE.mem_iff.1 hc)
  have gl : ∀ (L : List Chg), (∀ c ∈ L, GoodR c.old ∧ GoodR c.new) → ∀ i, i < L.length → (L.getD i default).old.length ≤ 1000000 ∧ (L.getD i default).new.length ≤ 1000000 := fun L hL i hi => by
    have := hL _ (getD_mem L i (by omega))
    exact ⟨by have := this.1.2; omega, by have := this.2.2; omega⟩
  have hr1 := fun (w2 : World) (h : RdCs w2 vq D) => refcs_spec (w := w2) h (by omega) (gl D hD)
  have hr2 := fun (w2 : World) (h : RdCs w2 vd E) => refcs_spec (w := w2) h (by omega) (gl E hE)
  have hcn : ∀ r ∈ T, countM T r = countM rc r := fun r _ => count_permT hTp r
  have rl : ∀ (L : List (List Val)), (∀ r ∈ L, GoodR r) → ∀ i, i < L.length → (L.getD i []).length ≤ 1000000 := fun L hL i hi => by
    have := (hL _ (getD_mem L i (by omega))).2
    have hd : L.getD i default = L.getD i [] := rfl
    rw [hd] at this; omega
  have hTg : ∀ r ∈ T, GoodR r := fun r hr => hf r (hTp.mem_iff.1 hr)
  have hr3 := fun (w2 : World) (ha : Rd w2 eC a l) (hb : RdT w2 eVal b T) => ref23_spec (w := w2) ha hb (by omega) (by omega) (rl T hTg)
  have hr4 := fun (w2 : World) (hx : Ext w w2) => ref23_spec (w := w2) (h0.ext hx) (h2.ext hx) (by omega) (by omega) (rl rc hf)
  have hwi := fun (w2 : World) {x y : Value} (hx : RdCq w2 x D) (hy : RdCq w2 y E) => within_spec hx hy (fun c hc => hDE.mem_iff.1 hc) (by omega) (by omega)
  have hsa := fun (w2 : World) {x1 x2 y1 y2 : Value} (h1 : Rd w2 eR x1 (l.map toR)) (h2 : RdT w2 eRv x2 T) (h3 : Rd w2 eR y1 (l.map toR)) (h4 : RdT w2 eRv y2 rc) => same28_spec h1 h2 h3 h4 (by omega) hTl hcn
  (have fct := (And.intro @q1 (And.intro @q7 (And.intro @q9 @q12))); repeat' (first | ((with_reducible apply G.a); exact rfl) | refine G.reg fun K hK => ?_ | (with_reducible (refine hK _ _ ?_); clear hK K) | (with_reducible (refine hK _ ?_); clear hK K; intro wd hxd; have hS := Sep.xx hxd) | ((first | have hk := hK | have hk := hK2); clear hk; simp (disch := first | exact dis | fail) only [push_cast, ↓reduceIte, Nat.reduceAdd, Nat.reduceLeDiff, Nat.reduceEqDiff, Nat.reduceLT, Int.reduceToNat, fct]) | ((first | refine brO_n ?_ ?_ | refine brQ_n ?_ ?_) <;> intro hb hc <;> first | (with_reducible exact False.elim hc) | (exfalso; omega) | (simp only [hb]; clear hb)) | ((first | refine zalc ?_ | ((with_reducible refine gBox ?_); refine zbox ?_)); intro gb wb hS) | ((with_reducible refine gSt ?_); refine zs2 ?_; intro wb hS) | ((with_reducible (show CallK _ 15 [vq] _ _ _ _)); refine zco 15 (hr1 _ (Sep.rdCs hS (vs := vs1) (by repeat constructor) (by repeat constructor))) ?_; rintro x1 wb ⟨xs1, hS2⟩; have hS := hS2.ap; simp only [apps] at hS) | ((with_reducible (show CallK _ 15 [vd] _ _ _ _)); refine zco 15 (hr2 _ (Sep.rdCs hS (vs := vs2) (by repeat constructor) (by repeat constructor))) ?_; rintro x2 wb ⟨xs2, hS2⟩; have hS := hS2.ap; simp only [apps] at hS) | (refine zcp 14 (hwi _ (Sep.rdCq hS (vs := xs1) (by repeat constructor) (by repeat constructor)) (Sep.rdCq hS (vs := xs2) (by repeat constructor) (by repeat constructor))) ?_; intro wb hS) | ((with_reducible (show CallK _ 11 [.agg #[a, b]] _ _ _ _)); refine zco 11 (hr3 _ (Sep.rd hS (by repeat constructor)) (Sep.rdT hS (vs := us) (by repeat constructor) (by repeat constructor))) ?_; rintro vb wb ⟨t1, t2, ts, rfl, hS2⟩; have hS := hS2.ap; simp only [apps] at hS) | ((with_reducible (show CallK _ 11 [.agg #[vc, uc]] _ _ _ _)); refine zco 11 (hr4 _ hS.x) ?_; rintro vb wb ⟨z1, z2, zs, rfl, hS2⟩; have hS := hS2.ap; simp only [apps] at hS) | (refine zcp 10 (hsa _ (Sep.rd hS (by repeat constructor)) (Sep.rdT hS (vs := ts) (by repeat constructor) (by repeat constructor)) (Sep.rd hS (by repeat constructor)) (Sep.rdT hS (vs := zs) (by repeat constructor) (by repeat constructor))) ?_; intro wb hS) | (refine zcp 6 (alive_spec _) ?_; intro wb hS) | (with_reducible refine And.intro (a := OT _ _ _ _ _) (b := OT _ _ _ _ _) ?_ ?_) | (refine G.drt mixed fun K hK wd hxd => ?_; have hS := Sep.xx hxd) | with_reducible refine OT_leaf ?_ | (with_reducible (refine hK2 _ ?_); clear hK2 K2; intro wd hxd; have hS := Sep.xx hxd) | with_reducible refine OT_br fun K2 hK2 => ?_ | (refine hK2 _ _ ?_ ?_ <;> clear hK2 K2) | refine G.drg mixed fun K hK => ?_ | (refine G.cn ?_ ?_ <;> intro hc <;> first | (with_reducible exact False.elim hc) | (exfalso; omega) | skip))) <;> (try clear fct)
  all_goals
    (have fct := (And.intro @q1 (And.intro @q7 (And.intro @q9 @q12))); (first | refine G.r1 ?_ | refine G.r2 ?_ | refine G.r3 ?_ | refine G.r0 ?_ | refine G.d0 ?_); (try simp (disch := first | exact dis | fail) only [push_cast, ↓reduceIte, Nat.reduceAdd, Nat.reduceLeDiff, Nat.reduceEqDiff, Nat.reduceLT, Int.reduceToNat, fct]); (try clear fct))
    (first | exact Sep.xt (by assumption) | exact ⟨rfl, Sep.xt (by assumption)⟩)
def threeT2 : MC := match c4 with
  | .seq _ (.seq _ (.seq _ (.seq _ (.seq _ (.seq _ (.seq _ (.seq _ t))))))) => t
  | _ => .skip
def threeI (T : MC) : MC := match threeT2 with
  | .seq i _ => .seq i T
  | _ => .skip
theorem threeI_eq : threeT2 = threeI threeT := rfl
set_option maxHeartbeats 4000000 in
theorem three_mid {va ua vb ub vc uc vk a b vq vd : Value} {l : List Col} {rc T : List (List Val)} {D E : List Chg} {vs1 vs2 : List (Int × Value × Value)} {us : List Value} {g1 g12 n : Nat} {w wl : World} {u : Fr} (h0 : Rd w eC vc l) (h2 : RdT w eVal uc rc)
    (hll : l.length ≤ 12) (hrl : rc.length ≤ 12) (hf : ∀ r ∈ rc, GoodR r) (hTp : T.Perm rc) (hDE : D.Perm E) (hE : ∀ c ∈ E, GoodR c.old ∧ GoodR c.new) (hEl : E.length ≤ 24)
    (q1 : u 1 = .pointer (some ⟨g1, 0, none⟩)) (q7 : u 7 = vd) (q8 : u 8 = I 0) (q9 : u 9 = vq) (q11 : u 11 = I 0) (q12 : u 12 = .pointer (some ⟨g12, 0, none⟩)) (q14 : u 14 = I 0)
    (hS : Sep w wl [accC vq 34 eCg vs1, frzG vs1 D, accC vd 34 eCg vs2, frzG vs2 E, boxC g12 25 [a, b], accC a 88 eC l, accC b 32 eV us, frzC eVal us T, boxC g1 48 [va, ua, vb, ub, vc, uc, vk]]) :
    G Tryd.prog Tryd.f4 n [.c threeT2] (fun v w' => v = .bool true ∧ Ext w w') u wl := by
  rw [threeI_eq]
  have hl1 := hS.frzGLen (.t .h)
  have hl2 := hS.frzGLen (.t (.t (.t .h)))
  have hvl : vs1.length = vs2.length := by rw [hl1, hl2, hDE.length_eq]
  have bq := (Sep.rd hS .h).bd
  have bd := (Sep.rd hS (.t (.t .h))).bd
  have hTl := fun (n : Nat) (u : Fr) (wl : World) => @three_tail va ua vb ub vc uc vk a b vq vd l rc T D E vs1 vs2 us g1 g12 n w wl u h0 h2 hll hrl hf hTp hDE hE hEl
  generalize threeT = T1 at hTl ⊢
  unfold threeI threeT2 c4
  dsimp only
  (have fct := (And.intro @q1 (And.intro @q7 (And.intro @q8 (And.intro @q9 (And.intro @q11 (And.intro @q12 (And.intro @q14 @hvl))))))); repeat' (first | ((with_reducible apply G.a); exact rfl) | refine G.reg fun K hK => ?_ | (with_reducible (refine hK _ _ ?_); clear hK K) | (with_reducible (refine hK _ ?_); clear hK K; intro wd hxd; have hS := Sep.xx hxd) | ((first | have hk := hK | have hk := hK2); clear hk; simp (disch := first | exact dis | fail) only [push_cast, ↓reduceIte, Nat.reduceAdd, Nat.reduceLeDiff, Nat.reduceEqDiff, Nat.reduceLT, Int.reduceToNat, fct]) | ((first | refine brO_n ?_ ?_ | refine brQ_n ?_ ?_) <;> intro hb hc <;> first | (with_reducible exact False.elim hc) | (exfalso; omega) | (simp only [hb]; clear hb)) | ((first | refine zalc ?_ | ((with_reducible refine gBox ?_); refine zbox ?_)); intro gb wb hS) | ((with_reducible refine gSt ?_); refine zs2 ?_; intro wb hS) | (refine G.drt mixed fun K hK wd hxd => ?_; have hS := Sep.xx hxd) | with_reducible refine OT_leaf ?_ | (with_reducible (refine hK2 _ ?_); clear hK2 K2; intro wd hxd; have hS := Sep.xx hxd) | with_reducible refine OT_br fun K2 hK2 => ?_ | (refine hK2 _ _ ?_ ?_ <;> clear hK2 K2) | refine G.drg mixed fun K hK => ?_ | (refine G.cn ?_ ?_ <;> intro hc <;> first | (with_reducible exact False.elim hc) | (exfalso; omega) | skip))) <;> (try clear fct)
  all_goals
    exact hTl _ _ _ (by simp only [push_cast, ↓reduceIte, Nat.reduceAdd, Nat.reduceLeDiff, Nat.reduceEqDiff, Nat.reduceLT, Int.reduceToNat, q1, q7, q8, q9, q11, q12, q14, hvl]) (by simp only [push_cast, ↓reduceIte, Nat.reduceAdd, Nat.reduceLeDiff, Nat.reduceEqDiff, Nat.reduceLT, Int.reduceToNat, q1, q7, q8, q9, q11, q12, q14, hvl]) (by simp only [push_cast, ↓reduceIte, Nat.reduceAdd, Nat.reduceLeDiff, Nat.reduceEqDiff, Nat.reduceLT, Int.reduceToNat, q1, q7, q8, q9, q11, q12, q14, hvl]) (by simp only [push_cast, ↓reduceIte, Nat.reduceAdd, Nat.reduceLeDiff, Nat.reduceEqDiff, Nat.reduceLT, Int.reduceToNat, q1, q7, q8, q9, q11, q12, q14, hvl]) hS
theorem diffE_ok {la lb : List Col} {ra rb : List (List Val)} {keys : List Str} {D : List Chg} (h : diffE la lb ra rb keys = .ok D) : la = lb ∧ KeysOk la keys ∧ RowsOk la.length (placesM la keys) ra ∧ RowsOk la.length (placesM la keys) rb ∧ D = difM (placesM la keys) ra rb := by
  unfold diffE at h
  cases hs : eqD la lb
  · rw [hs, if_pos rfl] at h; cases h
  rw [hs, if_neg (by simp)] at h
  have hlab : la = lb := eqD_eq hs
  subst hlab
  by_cases h1 : (dchkM la ra keys).2 = 0
  rotate_left
  · rw [if_pos h1] at h; cases h
  rw [if_neg (not_not_intro h1)] at h
  by_cases h2 : (dchkM la rb keys).2 = 0
  rotate_left
  · rw [if_pos h2] at h; cases h
  rw [if_neg (not_not_intro h2)] at h
  obtain ⟨a1, a2⟩ := (dchk_iff _ _ _).1 h1
  obtain ⟨b1, b2⟩ := (dchk_iff _ _ _).1 h2
  cases h
  exact ⟨rfl, a1, a2, b2, rfl⟩
theorem diffE_mk {la : List Col} {ra rb : List (List Val)} {keys : List Str} (hk : KeysOk la keys) (ha : RowsOk la.length (placesM la keys) ra) (hb : RowsOk la.length (placesM la keys) rb) : diffE la la ra rb keys = .ok (difM (placesM la keys) ra rb) := by
  unfold diffE
  rw [if_neg (by simp [eqD]), if_neg (not_not_intro ((dchk_iff _ _ _).2 ⟨hk, ha⟩)), if_neg (not_not_intro ((dchk_iff _ _ _).2 ⟨hk, hb⟩))]
theorem rdT_nilV (w : World) : RdT w eVal (.slice none 0 0) ([] : List (List Val)) := ⟨[], rd_nilV _ _, rfl, fun i hi => by simp at hi⟩
def threeC (T : MC) : MC := match c4 with
  | .seq a (.seq b (.seq c (.seq d (.seq e (.seq f (.seq g (.seq h _))))))) => .seq a (.seq b (.seq c (.seq d (.seq e (.seq f (.seq g (.seq h T)))))))
  | _ => .skip
theorem threeC_eq : c4 = threeC threeT2 := rfl
theorem fineC_of {cs : List Chg} (h : ∀ c ∈ cs, GoodR c.old ∧ GoodR c.new) : FineC cs := fun i hi => ⟨(h _ (getD_mem cs i (by omega))).1.1, (h _ (getD_mem cs i (by omega))).2.1⟩
set_option maxHeartbeats 8000000 in
theorem law_three {va ua vb ub vc uc vk : Value} {la lb lc : List Col} {ra rb rc : List (List Val)} {keys : List Str} {w : World} (ha : Rd w eC va la) (ha2 : RdT w eVal ua ra) (hb : Rd w eC vb lb) (hb2 : RdT w eVal ub rb) (hc1 : Rd w eC vc lc) (hc2 : RdT w eVal uc rc) (hk : Rd w eS vk keys)
    (hra : ∀ r ∈ ra, ∀ v ∈ r, -9223372036854775808 ≤ v.n ∧ v.n ≤ 9223372036854775807) (hrb : ∀ r ∈ rb, ∀ v ∈ r, -9223372036854775808 ≤ v.n ∧ v.n ≤ 9223372036854775807) (hrc : ∀ r ∈ rc, ∀ v ∈ r, -9223372036854775808 ≤ v.n ∧ v.n ≤ 9223372036854775807) (hT : Tab w) :
    Pu Tryd.prog 4 #[.agg #[va, ua, vb, ub, vc, uc, vk]] w (.bool true) := by
  refine in4 ?_
  rw [threeC_eq]
  have hS := Sep.start w
  have oa := ha.one
  have ob := hb.one
  have oc := hc1.one
  have ok := hk.one
  have oa2 : One ua := by obtain ⟨vs, h, _⟩ := ha2; exact h.one
  have ob2 : One ub := by obtain ⟨vs, h, _⟩ := hb2; exact h.one
  have oc2 : One uc := by obtain ⟨vs, h, _⟩ := hc2; exact h.one
  have hft1 := fun (w2 : World) (hx : Ext w w2) => fits25_spec (w := w2) (ha.ext hx) (ha2.ext hx) (hb.ext hx) (hb2.ext hx) (hk.ext hx)
  have hft2 := fun (w2 : World) (hx : Ext w w2) => fits25_spec (w := w2) (hc1.ext hx) (hc2.ext hx) (rd_nilV eC w2) (rdT_nilV w2) (hk.ext hx)
  have hTl := fun (hll hrl hf) (T : List (List Val)) (D E : List Chg) (hTp hDE hE hEl) (vs1 vs2 : List (Int × Value × Value)) (us : List Value) (a b vq vd : Value) (g1 g12 n : Nat) (u : Fr) (wl : World) => @three_mid va ua vb ub vc uc vk a b vq vd lc rc T D E vs1 vs2 us g1 g12 n w wl u hc1 hc2 hll hrl hf hTp hDE hE hEl
  generalize threeT2 = T at hTl ⊢
  unfold threeC c4
  dsimp only
  cases hF : fits25M la ra lb rb keys
  · rw [hF] at hft1
    repeat' (first | ((with_reducible apply G.a); exact rfl) | refine G.reg fun K hK => ?_ | (with_reducible (refine hK _ _ ?_); clear hK K) | (with_reducible (refine hK _ ?_); clear hK K; intro wd hxd; have hS := Sep.xx hxd) | ((first | have hk := hK | have hk := hK2); clear hk; simp (disch := first | exact dis | fail) only [push_cast, ↓reduceIte, Nat.reduceAdd, Nat.reduceLeDiff, Nat.reduceEqDiff, Nat.reduceLT, Int.reduceToNat, fct]) | ((first | refine brO_n ?_ ?_ | refine brQ_n ?_ ?_) <;> intro hb hc <;> first | (with_reducible exact False.elim hc) | (exfalso; omega) | (simp only [hb]; clear hb)) | ((first | refine zalc ?_ | ((with_reducible refine gBox ?_); refine zbox ?_)); intro gb wb hS) | ((with_reducible refine gSt ?_); refine zs2 ?_; intro wb hS) | ((with_reducible (show CallK _ 5 [.agg #[va, ua, vb, ub, vk]] _ _ _ _)); refine zcp 5 (hft1 _ hS.x) ?_; intro wb hS) | ((with_reducible (show CallK _ 5 [.agg #[vc, uc, .slice none 0 0, .slice none 0 0, vk]] _ _ _ _)); refine zcp 5 (hft2 _ hS.x) ?_; intro wb hS) | (refine zcp 6 (alive_spec _) ?_; intro wb hS) | (refine G.drt mixed fun K hK wd hxd => ?_; have hS := Sep.xx hxd) | with_reducible refine OT_leaf ?_ | (with_reducible (refine hK2 _ ?_); clear hK2 K2; intro wd hxd; have hS := Sep.xx hxd) | with_reducible refine OT_br fun K2 hK2 => ?_ | (refine hK2 _ _ ?_ ?_ <;> clear hK2 K2) | refine G.drg mixed fun K hK => ?_ | (refine G.cn ?_ ?_ <;> intro hc <;> first | (with_reducible exact False.elim hc) | (exfalso; omega) | skip))
    all_goals
      (first | refine G.r1 ?_ | refine G.r2 ?_ | refine G.r3 ?_ | refine G.r0 ?_ | refine G.d0 ?_); (try simp (disch := first | exact dis | fail) only [push_cast, ↓reduceIte, Nat.reduceAdd, Nat.reduceLeDiff, Nat.reduceEqDiff, Nat.reduceLT, Int.reduceToNat, fct])
      (first | exact Sep.xt (by assumption) | exact ⟨rfl, Sep.xt (by assumption)⟩)
  rw [hF] at hft1
  cases hF2 : fits25M lc rc [] [] keys
  · rw [hF2] at hft2
    repeat' (first | ((with_reducible apply G.a); exact rfl) | refine G.reg fun K hK => ?_ | (with_reducible (refine hK _ _ ?_); clear hK K) | (with_reducible (refine hK _ ?_); clear hK K; intro wd hxd; have hS := Sep.xx hxd) | ((first | have hk := hK | have hk := hK2); clear hk; simp (disch := first | exact dis | fail) only [push_cast, ↓reduceIte, Nat.reduceAdd, Nat.reduceLeDiff, Nat.reduceEqDiff, Nat.reduceLT, Int.reduceToNat, fct]) | ((first | refine brO_n ?_ ?_ | refine brQ_n ?_ ?_) <;> intro hb hc <;> first | (with_reducible exact False.elim hc) | (exfalso; omega) | (simp only [hb]; clear hb)) | ((first | refine zalc ?_ | ((with_reducible refine gBox ?_); refine zbox ?_)); intro gb wb hS) | ((with_reducible refine gSt ?_); refine zs2 ?_; intro wb hS) | ((with_reducible (show CallK _ 5 [.agg #[va, ua, vb, ub, vk]] _ _ _ _)); refine zcp 5 (hft1 _ hS.x) ?_; intro wb hS) | ((with_reducible (show CallK _ 5 [.agg #[vc, uc, .slice none 0 0, .slice none 0 0, vk]] _ _ _ _)); refine zcp 5 (hft2 _ hS.x) ?_; intro wb hS) | (refine zcp 6 (alive_spec _) ?_; intro wb hS) | (refine G.drt mixed fun K hK wd hxd => ?_; have hS := Sep.xx hxd) | with_reducible refine OT_leaf ?_ | (with_reducible (refine hK2 _ ?_); clear hK2 K2; intro wd hxd; have hS := Sep.xx hxd) | with_reducible refine OT_br fun K2 hK2 => ?_ | (refine hK2 _ _ ?_ ?_ <;> clear hK2 K2) | refine G.drg mixed fun K hK => ?_ | (refine G.cn ?_ ?_ <;> intro hc <;> first | (with_reducible exact False.elim hc) | (exfalso; omega) | skip))
    all_goals
      (first | refine G.r1 ?_ | refine G.r2 ?_ | refine G.r3 ?_ | refine G.r0 ?_ | refine G.d0 ?_); (try simp (disch := first | exact dis | fail) only [push_cast, ↓reduceIte, Nat.reduceAdd, Nat.reduceLeDiff, Nat.reduceEqDiff, Nat.reduceLT, Int.reduceToNat, fct])
      (first | exact Sep.xt (by assumption) | exact ⟨rfl, Sep.xt (by assumption)⟩)
  rw [hF2] at hft2
  unfold fits25M at hF hF2
  rw [Bool.and_eq_true, Bool.and_eq_true, Bool.and_eq_true, decide_eq_true_eq] at hF hF2
  obtain ⟨⟨l1, l2⟩, l3, l4⟩ := few23_len hF.2.1
  obtain ⟨⟨m1, m2⟩, m3, m4⟩ := few23_len hF.2.2.1
  obtain ⟨⟨n1, n2⟩, n3, n4⟩ := few23_len hF2.2.1
  have hkl := hF.2.2.2
  have gra : ∀ r ∈ ra, GoodR r := fun r hr => ⟨fun v hv => by have := (l4 r hr).2 v hv; have := hra r hr v hv; omega, (l4 r hr).1⟩
  have grb : ∀ r ∈ rb, GoodR r := fun r hr => ⟨fun v hv => by have := (m4 r hr).2 v hv; have := hrb r hr v hv; omega, (m4 r hr).1⟩
  have grc : ∀ r ∈ rc, GoodR r := fun r hr => ⟨fun v hv => by have := (n4 r hr).2 v hv; have := hrc r hr v hv; omega, (n4 r hr).1⟩
  have fA : ∀ i, i < ra.length → FineV (ra.getD i []) := fun i hi => (gra _ (getD_mem ra i (by omega))).1
  have fB : ∀ i, i < rb.length → FineV (rb.getD i []) := fun i hi => (grb _ (getD_mem rb i (by omega))).1
  have fC : ∀ i, i < rc.length → FineV (rc.getD i []) := fun i hi => (grc _ (getD_mem rc i (by omega))).1
  have nA : ∀ c ∈ la, c.name.length ≤ 100000000000 := fun c hc => by have := l2 c hc; omega
  have nB : ∀ c ∈ lb, c.name.length ≤ 100000000000 := fun c hc => by have := m2 c hc; omega
  have nC : ∀ c ∈ lc, c.name.length ≤ 100000000000 := fun c hc => by have := n2 c hc; omega
  have hd1 := fun (w2 : World) (hx : Ext w w2) => diff_spec (w := w2) (ha.ext hx) (ha2.ext hx) (hb.ext hx) (hb2.ext hx) (hk.ext hx) nA nB (by omega) fA fB (by omega) (by omega) (by omega) (hT.ext hx)
  have hd2 := fun (w2 : World) (hx : Ext w w2) => diff_spec (w := w2) (hb.ext hx) (hb2.ext hx) (hc1.ext hx) (hc2.ext hx) (hk.ext hx) nB nC (by omega) fB fC (by omega) (by omega) (by omega) (hT.ext hx)
  have hd3 := fun (w2 : World) (hx : Ext w w2) => diff_spec (w := w2) (ha.ext hx) (ha2.ext hx) (hc1.ext hx) (hc2.ext hx) (hk.ext hx) nA nC (by omega) fA fC (by omega) (by omega) (by omega) (hT.ext hx)
  cases hX : diffE la lb ra rb keys with
  | error e1 =>
    rw [hX] at hd1
    cases hY : diffE lb lc rb rc keys with
    | error e2 =>
      rw [hY] at hd2
      repeat' (first | ((with_reducible apply G.a); exact rfl) | refine G.reg fun K hK => ?_ | (with_reducible (refine hK _ _ ?_); clear hK K) | (with_reducible (refine hK _ ?_); clear hK K; intro wd hxd; have hS := Sep.xx hxd) | ((first | have hk := hK | have hk := hK2); clear hk; simp (disch := first | exact dis | fail) only [push_cast, ↓reduceIte, Nat.reduceAdd, Nat.reduceLeDiff, Nat.reduceEqDiff, Nat.reduceLT, Int.reduceToNat, fct]) | ((first | refine brO_n ?_ ?_ | refine brQ_n ?_ ?_) <;> intro hb hc <;> first | (with_reducible exact False.elim hc) | (exfalso; omega) | (simp only [hb]; clear hb)) | ((first | refine zalc ?_ | ((with_reducible refine gBox ?_); refine zbox ?_)); intro gb wb hS) | ((with_reducible refine gSt ?_); refine zs2 ?_; intro wb hS) | ((with_reducible (show CallK _ 5 [.agg #[va, ua, vb, ub, vk]] _ _ _ _)); refine zcp 5 (hft1 _ hS.x) ?_; intro wb hS) | ((with_reducible (show CallK _ 5 [.agg #[vc, uc, .slice none 0 0, .slice none 0 0, vk]] _ _ _ _)); refine zcp 5 (hft2 _ hS.x) ?_; intro wb hS) | (refine zcp 6 (alive_spec _) ?_; intro wb hS) | ((with_reducible (show CallK _ 12 [.agg #[va, ua], .agg #[vb, ub], vk] _ _ _ _)); refine zco 12 (hd1 _ hS.x) ?_; (rintro vb wb ⟨hpe, rfl, hxx⟩; have hS := Sep.xx hxx)) | ((with_reducible (show CallK _ 12 [.agg #[vb, ub], .agg #[vc, uc], vk] _ _ _ _)); refine zco 12 (hd2 _ hS.x) ?_; (rintro vb wb ⟨hpf, rfl, hxx⟩; have hS := Sep.xx hxx)) | (refine G.drt mixed fun K hK wd hxd => ?_; have hS := Sep.xx hxd) | with_reducible refine OT_leaf ?_ | (with_reducible (refine hK2 _ ?_); clear hK2 K2; intro wd hxd; have hS := Sep.xx hxd) | with_reducible refine OT_br fun K2 hK2 => ?_ | (refine hK2 _ _ ?_ ?_ <;> clear hK2 K2) | refine G.drg mixed fun K hK => ?_ | (refine G.cn ?_ ?_ <;> intro hc <;> first | (with_reducible exact False.elim hc) | (exfalso; omega) | skip))
      all_goals
        (first | refine G.r1 ?_ | refine G.r2 ?_ | refine G.r3 ?_ | refine G.r0 ?_ | refine G.d0 ?_); (try simp (disch := first | exact dis | fail) only [push_cast, ↓reduceIte, Nat.reduceAdd, Nat.reduceLeDiff, Nat.reduceEqDiff, Nat.reduceLT, Int.reduceToNat, fct])
        (first | exact Sep.xt (by assumption) | exact ⟨rfl, Sep.xt (by assumption)⟩)
    | ok D2 =>
      rw [hY] at hd2
      repeat' (first | ((with_reducible apply G.a); exact rfl) | refine G.reg fun K hK => ?_ | (with_reducible (refine hK _ _ ?_); clear hK K) | (with_reducible (refine hK _ ?_); clear hK K; intro wd hxd; have hS := Sep.xx hxd) | ((first | have hk := hK | have hk := hK2); clear hk; simp (disch := first | exact dis | fail) only [push_cast, ↓reduceIte, Nat.reduceAdd, Nat.reduceLeDiff, Nat.reduceEqDiff, Nat.reduceLT, Int.reduceToNat, fct]) | ((first | refine brO_n ?_ ?_ | refine brQ_n ?_ ?_) <;> intro hb hc <;> first | (with_reducible exact False.elim hc) | (exfalso; omega) | (simp only [hb]; clear hb)) | ((first | refine zalc ?_ | ((with_reducible refine gBox ?_); refine zbox ?_)); intro gb wb hS) | ((with_reducible refine gSt ?_); refine zs2 ?_; intro wb hS) | ((with_reducible (show CallK _ 5 [.agg #[va, ua, vb, ub, vk]] _ _ _ _)); refine zcp 5 (hft1 _ hS.x) ?_; intro wb hS) | ((with_reducible (show CallK _ 5 [.agg #[vc, uc, .slice none 0 0, .slice none 0 0, vk]] _ _ _ _)); refine zcp 5 (hft2 _ hS.x) ?_; intro wb hS) | (refine zcp 6 (alive_spec _) ?_; intro wb hS) | ((with_reducible (show CallK _ 12 [.agg #[va, ua], .agg #[vb, ub], vk] _ _ _ _)); refine zco 12 (hd1 _ hS.x) ?_; (rintro vb wb ⟨hpe, rfl, hxx⟩; have hS := Sep.xx hxx)) | ((with_reducible (show CallK _ 12 [.agg #[vb, ub], .agg #[vc, uc], vk] _ _ _ _)); refine zco 12 (hd2 _ hS.x) ?_; (rintro vb wb ⟨v2, vs2, rfl, hS2⟩; have hS := hS2.ap; simp only [apps] at hS)) | (refine G.drt mixed fun K hK wd hxd => ?_; have hS := Sep.xx hxd) | with_reducible refine OT_leaf ?_ | (with_reducible (refine hK2 _ ?_); clear hK2 K2; intro wd hxd; have hS := Sep.xx hxd) | with_reducible refine OT_br fun K2 hK2 => ?_ | (refine hK2 _ _ ?_ ?_ <;> clear hK2 K2) | refine G.drg mixed fun K hK => ?_ | (refine G.cn ?_ ?_ <;> intro hc <;> first | (with_reducible exact False.elim hc) | (exfalso; omega) | skip))
      all_goals
        (first | refine G.r1 ?_ | refine G.r2 ?_ | refine G.r3 ?_ | refine G.r0 ?_ | refine G.d0 ?_); (try simp (disch := first | exact dis | fail) only [push_cast, ↓reduceIte, Nat.reduceAdd, Nat.reduceLeDiff, Nat.reduceEqDiff, Nat.reduceLT, Int.reduceToNat, fct])
        (first | exact Sep.xt (by assumption) | exact ⟨rfl, Sep.xt (by assumption)⟩)
  | ok D1 =>
    rw [hX] at hd1
    cases hY : diffE lb lc rb rc keys with
    | error e2 =>
      rw [hY] at hd2
      repeat' (first | ((with_reducible apply G.a); exact rfl) | refine G.reg fun K hK => ?_ | (with_reducible (refine hK _ _ ?_); clear hK K) | (with_reducible (refine hK _ ?_); clear hK K; intro wd hxd; have hS := Sep.xx hxd) | ((first | have hk := hK | have hk := hK2); clear hk; simp (disch := first | exact dis | fail) only [push_cast, ↓reduceIte, Nat.reduceAdd, Nat.reduceLeDiff, Nat.reduceEqDiff, Nat.reduceLT, Int.reduceToNat, fct]) | ((first | refine brO_n ?_ ?_ | refine brQ_n ?_ ?_) <;> intro hb hc <;> first | (with_reducible exact False.elim hc) | (exfalso; omega) | (simp only [hb]; clear hb)) | ((first | refine zalc ?_ | ((with_reducible refine gBox ?_); refine zbox ?_)); intro gb wb hS) | ((with_reducible refine gSt ?_); refine zs2 ?_; intro wb hS) | ((with_reducible (show CallK _ 5 [.agg #[va, ua, vb, ub, vk]] _ _ _ _)); refine zcp 5 (hft1 _ hS.x) ?_; intro wb hS) | ((with_reducible (show CallK _ 5 [.agg #[vc, uc, .slice none 0 0, .slice none 0 0, vk]] _ _ _ _)); refine zcp 5 (hft2 _ hS.x) ?_; intro wb hS) | (refine zcp 6 (alive_spec _) ?_; intro wb hS) | ((with_reducible (show CallK _ 12 [.agg #[va, ua], .agg #[vb, ub], vk] _ _ _ _)); refine zco 12 (hd1 _ hS.x) ?_; (rintro vb wb ⟨v1, vs1, rfl, hS2⟩; have hS := hS2.ap; simp only [apps] at hS)) | ((with_reducible (show CallK _ 12 [.agg #[vb, ub], .agg #[vc, uc], vk] _ _ _ _)); refine zco 12 (hd2 _ hS.x) ?_; (rintro vb wb ⟨hpf, rfl, hxx⟩; have hS := Sep.xx hxx)) | (refine G.drt mixed fun K hK wd hxd => ?_; have hS := Sep.xx hxd) | with_reducible refine OT_leaf ?_ | (with_reducible (refine hK2 _ ?_); clear hK2 K2; intro wd hxd; have hS := Sep.xx hxd) | with_reducible refine OT_br fun K2 hK2 => ?_ | (refine hK2 _ _ ?_ ?_ <;> clear hK2 K2) | refine G.drg mixed fun K hK => ?_ | (refine G.cn ?_ ?_ <;> intro hc <;> first | (with_reducible exact False.elim hc) | (exfalso; omega) | skip))
      all_goals
        (first | refine G.r1 ?_ | refine G.r2 ?_ | refine G.r3 ?_ | refine G.r0 ?_ | refine G.d0 ?_); (try simp (disch := first | exact dis | fail) only [push_cast, ↓reduceIte, Nat.reduceAdd, Nat.reduceLeDiff, Nat.reduceEqDiff, Nat.reduceLT, Int.reduceToNat, fct])
        (first | exact Sep.xt (by assumption) | exact ⟨rfl, Sep.xt (by assumption)⟩)
    | ok D2 =>
      rw [hY] at hd2
      obtain ⟨e1, ko, roa, rob, d1⟩ := diffE_ok hX
      subst e1
      obtain ⟨e2, _, _, roc, d2⟩ := diffE_ok hY
      subst e2
      rw [diffE_mk ko roa roc] at hd3
      obtain ⟨sF, hrun, hper⟩ := compose_ok roa.d rob.d roc.d
      rw [← d1, ← d2] at hrun
      have g1 : ∀ c ∈ D1, GoodR c.old ∧ GoodR c.new := fun c hc => by rw [d1] at hc; exact dif_good roa.d rob.d gra grb hc
      have g2 : ∀ c ∈ D2, GoodR c.old ∧ GoodR c.new := fun c hc => by rw [d2] at hc; exact dif_good rob.d roc.d grb grc hc
      have gg3 : ∀ c ∈ difM (placesM la keys) ra rc, GoodR c.old ∧ GoodR c.new := fun c hc => dif_good roa.d roc.d gra grc hc
      have t1 : D1.length ≤ 24 := by have := dif_len (placesM la keys) ra rb; rw [← d1] at this; omega
      have t2 : D2.length ≤ 24 := by have := dif_len (placesM la keys) rb rc; rw [← d2] at this; omega
      have t3 : (difM (placesM la keys) ra rc).length ≤ 24 := by have := dif_len (placesM la keys) ra rc; omega
      have px : (pchkM la keys D1).2 = 0 := (pchk_iff _ _ _).2 ⟨ko, fun c hc => by rw [d1] at hc; exact chg_one roa rob hc⟩
      have py : (pchkM la keys D2).2 = 0 := (pchk_iff _ _ _).2 ⟨ko, fun c hc => by rw [d2] at hc; exact chg_one rob roc hc⟩
      obtain ⟨hoo, hst⟩ := apply_dif roa roc hper
      obtain ⟨T0, hT0, hTp⟩ := applyM_may ko roa hoo hst
      have hcm := fun (w2 : World) {v1 v2 : Value} (hx : Ext w w2) (h1 : RdCs w2 v1 D1) (h2 : RdCs w2 v2 D2) => compose_spec (w := w2) (ha.ext hx) (hk.ext hx) h1 h2 nA (by omega) (by omega) (fineC_of g1) (fineC_of g2) (by omega) (by omega) (hT.ext hx) px py hrun
      have t4 := hper.length_eq
      have g4 : ∀ c ∈ outM sF.slots, GoodR c.old ∧ GoodR c.new := fun c hc => gg3 c (hper.mem_iff.1 hc)
      generalize outM sF.slots = D at *
      generalize difM (placesM la keys) ra rc = E at *
      have hap := fun (w2 : World) {v : Value} (hx : Ext w w2) (h : RdCs w2 v D) => apply_spec (w := w2) (ha.ext hx) (ha2.ext hx) (hk.ext hx) h nA (by omega) fA (fineC_of g4) (by omega) (by omega) (by omega) (hT.ext hx)
      rw [hT0] at hap
      clear hX hY hrun hT0 px py hoo hst hF hF2 roa rob roc ko d1 d2
      repeat' (first | ((with_reducible apply G.a); exact rfl) | refine G.reg fun K hK => ?_ | (with_reducible (refine hK _ _ ?_); clear hK K) | (with_reducible (refine hK _ ?_); clear hK K; intro wd hxd; have hS := Sep.xx hxd) | ((first | have hk := hK | have hk := hK2); clear hk; simp (disch := first | exact dis | fail) only [push_cast, ↓reduceIte, Nat.reduceAdd, Nat.reduceLeDiff, Nat.reduceEqDiff, Nat.reduceLT, Int.reduceToNat, fct]) | ((first | refine brO_n ?_ ?_ | refine brQ_n ?_ ?_) <;> intro hb hc <;> first | (with_reducible exact False.elim hc) | (exfalso; omega) | (simp only [hb]; clear hb)) | ((first | refine zalc ?_ | ((with_reducible refine gBox ?_); refine zbox ?_)); intro gb wb hS) | ((with_reducible refine gSt ?_); refine zs2 ?_; intro wb hS) | ((with_reducible (show CallK _ 5 [.agg #[va, ua, vb, ub, vk]] _ _ _ _)); refine zcp 5 (hft1 _ hS.x) ?_; intro wb hS) | ((with_reducible (show CallK _ 5 [.agg #[vc, uc, .slice none 0 0, .slice none 0 0, vk]] _ _ _ _)); refine zcp 5 (hft2 _ hS.x) ?_; intro wb hS) | (refine zcp 6 (alive_spec _) ?_; intro wb hS) | ((with_reducible (show CallK _ 12 [.agg #[va, ua], .agg #[vb, ub], vk] _ _ _ _)); refine zco 12 (hd1 _ hS.x) ?_; (rintro vb wb ⟨v1, vs1, rfl, hS2⟩; have hS := hS2.ap; simp only [apps] at hS)) | ((with_reducible (show CallK _ 12 [.agg #[vb, ub], .agg #[vc, uc], vk] _ _ _ _)); refine zco 12 (hd2 _ hS.x) ?_; (rintro vb wb ⟨v2, vs2, rfl, hS2⟩; have hS := hS2.ap; simp only [apps] at hS)) | ((with_reducible (show CallK _ 12 [.agg #[va, ua], .agg #[vc, uc], vk] _ _ _ _)); refine zco 12 (hd3 _ hS.x) ?_; (rintro vb wb ⟨v3, vs3, rfl, hS2⟩; have hS := hS2.ap; simp only [apps] at hS)) | (refine zco 13 (hcm _ hS.x (Sep.rdCs hS (vs := vs1) (by repeat constructor) (by repeat constructor)) (Sep.rdCs hS (vs := vs2) (by repeat constructor) (by repeat constructor))) ?_; rintro vb wb ⟨v4, vs4, rfl, hS2⟩; have hS := hS2.ap; simp only [apps] at hS) | (refine zco 8 (hap _ hS.x (Sep.rdCs hS (vs := vs4) (by repeat constructor) (by repeat constructor))) ?_; rintro vb wb ⟨a, b, us, rfl, hS2⟩; have hS := hS2.ap; simp only [apps] at hS) | (refine G.drt mixed fun K hK wd hxd => ?_; have hS := Sep.xx hxd) | with_reducible refine OT_leaf ?_ | (with_reducible (refine hK2 _ ?_); clear hK2 K2; intro wd hxd; have hS := Sep.xx hxd) | with_reducible refine OT_br fun K2 hK2 => ?_ | (refine hK2 _ _ ?_ ?_ <;> clear hK2 K2) | refine G.drg mixed fun K hK => ?_ | (refine G.cn ?_ ?_ <;> intro hc <;> first | (with_reducible exact False.elim hc) | (exfalso; omega) | skip))
      all_goals
        exact hTl (by omega) (by omega) grc T0 D E hTp hper gg3 t3 vs4 vs3 us a b v4 v3 _ _ _ _ _ (by (simp only [push_cast, ↓reduceIte, Nat.reduceAdd, Nat.reduceLeDiff, Nat.reduceEqDiff, Nat.reduceLT, Int.reduceToNat] <;> rfl)) (by (simp only [push_cast, ↓reduceIte, Nat.reduceAdd, Nat.reduceLeDiff, Nat.reduceEqDiff, Nat.reduceLT, Int.reduceToNat] <;> rfl)) (by (simp only [push_cast, ↓reduceIte, Nat.reduceAdd, Nat.reduceLeDiff, Nat.reduceEqDiff, Nat.reduceLT, Int.reduceToNat] <;> rfl)) (by (simp only [push_cast, ↓reduceIte, Nat.reduceAdd, Nat.reduceLeDiff, Nat.reduceEqDiff, Nat.reduceLT, Int.reduceToNat] <;> rfl)) (by (simp only [push_cast, ↓reduceIte, Nat.reduceAdd, Nat.reduceLeDiff, Nat.reduceEqDiff, Nat.reduceLT, Int.reduceToNat] <;> rfl)) (by (simp only [push_cast, ↓reduceIte, Nat.reduceAdd, Nat.reduceLeDiff, Nat.reduceEqDiff, Nat.reduceLT, Int.reduceToNat] <;> rfl)) (by (simp only [push_cast, ↓reduceIte, Nat.reduceAdd, Nat.reduceLeDiff, Nat.reduceEqDiff, Nat.reduceLT, Int.reduceToNat] <;> rfl)) (Sep.sub hS (by repeat first | exact Sub.rfl' | exact Sub.nil0 | (refine Sub.c (by repeat constructor) ?_) | refine Sub.skip ?_))
end Go.Proofs.YtjajihaeoolefaaDoor
