/- Texts of the proof, joined. -/
import Derived.Test.YtjajihaeoolefaaDoorProg
import Derived.Test.YtjajihaeoolefaaDooryMc
import Derived.Test.YtjajihaeoolefaaDooryPa
namespace Go.Proofs.YtjajihaeoolefaaDoor
set_option linter.unusedSimpArgs false
set_option linter.unusedVariables false
attribute [local irreducible] SemK UnitK StK AlcK BslK CallK CallV Instr.box Builtin.append_ Instr.makeSlice Instr.makeMap Instr.lookup Instr.mapUpdate Instr.sliceAt convert
open Go.RowKit
theorem mixed : Tryd.prog.follows .mixedOrders = true := by kernel_rfl
section
variable {w : World} {g cap : Nat} {t : TypeId} {a b c d : Int}
theorem blk_at {xs : List Value} (h : Blk w g t xs.toArray) (i : Nat) (hi : i < xs.length) : w.cell? ((⟨g, 0, none⟩ : Addr).add i) = some (xs.getD i undef) := by
  rw [addg, Nat.zero_add, h.cell]
  simp [List.getD_eq_getElem?_getD, List.getElem?_eq_getElem hi]
theorem okB2s_b3 (h : Blk w g t [.int .u8 a, .int .u8 b, .int .u8 c].toArray) : okB2s w (.slice (some ⟨g, 0, none⟩) 3 cap) = True := by
  apply eq_true
  intro j hj
  have : j = 0 ∨ j = 1 ∨ j = 2 := by omega
  rcases this with rfl | rfl | rfl <;> exact ⟨_, blk_at h _ (by simp)⟩
theorem b2sV_b3 (h : Blk w g t [.int .u8 a, .int .u8 b, .int .u8 c].toArray) : b2sV w (.slice (some ⟨g, 0, none⟩) 3 cap) = S [UInt8.ofNat a.toNat, UInt8.ofNat b.toNat, UInt8.ofNat c.toNat] := by
  simp only [b2sV, show List.range 3 = [0, 1, 2] from rfl, List.map_cons, List.map_nil, blk_at h 0 (by simp), blk_at h 1 (by simp), blk_at h 2 (by simp)]
  rfl
theorem okB2s_b4 (h : Blk w g t [.int .u8 a, .int .u8 b, .int .u8 c, .int .u8 d].toArray) : okB2s w (.slice (some ⟨g, 0, none⟩) 4 cap) = True := by
  apply eq_true
  intro j hj
  have : j = 0 ∨ j = 1 ∨ j = 2 ∨ j = 3 := by omega
  rcases this with rfl | rfl | rfl | rfl <;> exact ⟨_, blk_at h _ (by simp)⟩
theorem b2sV_b4 (h : Blk w g t [.int .u8 a, .int .u8 b, .int .u8 c, .int .u8 d].toArray) : b2sV w (.slice (some ⟨g, 0, none⟩) 4 cap) = S [UInt8.ofNat a.toNat, UInt8.ofNat b.toNat, UInt8.ofNat c.toNat, UInt8.ofNat d.toNat] := by
  simp only [b2sV, show List.range 4 = [0, 1, 2, 3] from rfl, List.map_cons, List.map_nil, blk_at h 0 (by simp), blk_at h 1 (by simp), blk_at h 2 (by simp), blk_at h 3 (by simp)]
  rfl
end
def c71 : MC := (.seq (.reg [qq 2 (.mv (.const (S [])))]) (.seq (.seq (.reg [qm 3 0, qq 4 (.bin .lss (.tmp 3) (ki 128))]) (.cond (.tmp 4) (.seq (.reg [qm 5 0, qq 6 (.cvi .u8 (.tmp 5)), qq 7 (.bsl 5 [(.int .u8 0)] 1 [⟨0, ⟨1, (.tmp 6)⟩⟩]), qq 8 (.b2s (.tmp 7)), qm 2 8]) .ret) .skip)) (.seq (.seq (.reg [qm 9 0, qq 10 (.bin .lss (.tmp 9) (ki 2048))]) (.cond (.tmp 10) (.seq (.reg [qm 11 0, qq 12 (.bin .quo (.tmp 11) (ki 64)), qq 13 (.bin .add (ki 192) (.tmp 12)), qq 14 (.cvi .u8 (.tmp 13)), qm 15 0, qq 16 (.bin .rem (.tmp 15) (ki 64)), qq 17 (.bin .add (ki 128) (.tmp 16)), qq 18 (.cvi .u8 (.tmp 17)), qq 19 (.bsl 5 [(.int .u8 0), (.int .u8 0)] 2 [⟨0, ⟨1, (.tmp 14)⟩⟩, ⟨1, ⟨1, (.tmp 18)⟩⟩]), qq 20 (.b2s (.tmp 19)), qm 2 20]) .ret) .skip)) (.seq (.seq (.reg [qm 21 0, qq 22 (.bin .lss (.tmp 21) (ki 65536))]) (.cond (.tmp 22) (.seq (.reg [qm 23 0, qq 24 (.bin .quo (.tmp 23) (ki 4096)), qq 25 (.bin .add (ki 224) (.tmp 24)), qq 26 (.cvi .u8 (.tmp 25)), qm 27 0, qq 28 (.bin .quo (.tmp 27) (ki 64)), qq 29 (.bin .rem (.tmp 28) (ki 64)), qq 30 (.bin .add (ki 128) (.tmp 29)), qq 31 (.cvi .u8 (.tmp 30)), qm 32 0, qq 33 (.bin .rem (.tmp 32) (ki 64)), qq 34 (.bin .add (ki 128) (.tmp 33)), qq 35 (.cvi .u8 (.tmp 34)), qq 36 (.bsl 5 [(.int .u8 0), (.int .u8 0), (.int .u8 0)] 3 [⟨0, ⟨1, (.tmp 26)⟩⟩, ⟨1, ⟨1, (.tmp 31)⟩⟩, ⟨2, ⟨1, (.tmp 35)⟩⟩]), qq 37 (.b2s (.tmp 36)), qm 2 37]) .ret) .skip)) (.seq (.reg [qm 38 0, qq 39 (.bin .quo (.tmp 38) (ki 262144)), qq 40 (.bin .add (ki 240) (.tmp 39)), qq 41 (.cvi .u8 (.tmp 40)), qm 42 0, qq 43 (.bin .quo (.tmp 42) (ki 4096)), qq 44 (.bin .rem (.tmp 43) (ki 64)), qq 45 (.bin .add (ki 128) (.tmp 44)), qq 46 (.cvi .u8 (.tmp 45)), qm 47 0, qq 48 (.bin .quo (.tmp 47) (ki 64)), qq 49 (.bin .rem (.tmp 48) (ki 64)), qq 50 (.bin .add (ki 128) (.tmp 49)), qq 51 (.cvi .u8 (.tmp 50)), qm 52 0, qq 53 (.bin .rem (.tmp 52) (ki 64)), qq 54 (.bin .add (ki 128) (.tmp 53)), qq 55 (.cvi .u8 (.tmp 54)), qq 56 (.bsl 5 [(.int .u8 0), (.int .u8 0), (.int .u8 0), (.int .u8 0)] 4 [⟨0, ⟨1, (.tmp 41)⟩⟩, ⟨1, ⟨1, (.tmp 46)⟩⟩, ⟨2, ⟨1, (.tmp 51)⟩⟩, ⟨3, ⟨1, (.tmp 55)⟩⟩]), qq 57 (.b2s (.tmp 56)), qm 2 57]) .ret)))))
theorem k71 : conv Tryd.prog 58 (Tryd.f71.body.getD .skip) = c71 := by kernel_rfl
theorem in71 {a0 : Value} {w : World} {R : Value → World → Prop} (h : G Tryd.prog Tryd.f71 58 [.c c71] R (frL 0 [a0]) w) : Ret Tryd.prog 71 #[a0] w R := G.enter (args := [a0]) Tryd.func71 (c := Tryd.f71.body.getD .skip) (by kernel_rfl) (by kernel_rfl) (by simp) k71 h
theorem put_spec (c : Int) (w : World) (h0 : 0 ≤ c) (h1 : c ≤ 1114111) : Pu Tryd.prog 71 #[I c] w (S (putM c)) := by
  refine in71 ?_
  have hS := Sep.start w
  unfold putM
  (have fct := (And.intro @okB2s_b3 (And.intro @okB2s_b4 (And.intro @b2sV_b3 @b2sV_b4))); repeat' (first | ((with_reducible apply G.a); exact rfl) | refine G.reg fun K hK => ?_ | (with_reducible (refine hK _ _ ?_); clear hK K) | (have hk := hK; clear hk; simp (disch := first | exact dis | fail) only [push_cast, ↓reduceIte, Nat.reduceAdd, Nat.reduceLeDiff, Nat.reduceEqDiff, Nat.reduceLT, Int.reduceToNat, fct]) | (refine zbsl ?_; intro gb wb hS) | (refine G.cn ?_ ?_ <;> intro hc <;> first | (with_reducible exact False.elim hc) | (exfalso; omega) | skip))) <;> (try clear fct)
  all_goals
    (have fct := (And.intro @okB2s_b3 (And.intro @okB2s_b4 (And.intro @b2sV_b3 @b2sV_b4))); (first | refine G.r1 ?_ | refine G.r2 ?_ | refine G.r3 ?_ | refine G.r0 ?_ | refine G.d0 ?_); (try simp (disch := first | exact dis | fail) only [push_cast, ↓reduceIte, Nat.reduceAdd, Nat.reduceLeDiff, Nat.reduceEqDiff, Nat.reduceLT, Int.reduceToNat, fct]); (try clear fct))
    refine ⟨?_, Sep.xt (by assumption)⟩
    clear hS
    simp (disch := omega) only [if_pos, if_neg]
def c57l1 : MC := (.seq (.seq (.reg [qm 5 3, qq 6 (.bin .leq (.tmp 5) (ki 4)), qm 7 6, qmt 7 8 3, qmt 7 9 0, qt 7 10 (.lenS (.tmp 9)), qt 7 11 (.bin .leq (.tmp 8) (.tmp 10)), qq 12 (.pick (.tmp 7) (.tmp 11) (kb false))]) (.cond (.tmp 12) .skip (.exit 0))) (.seq (.blk 1 (.seq (.reg [qm 15 0, qq 16 (.idxS (.tmp 15) (ki 0)), qq 17 (.cvi .i64 (.tmp 16)), qm 4 17]) (.seq (.seq (.reg [qm 18 3, qq 19 (.bin .eql (.tmp 18) (ki 2))]) (.cond (.tmp 19) (.drg [qm 20 0, qq 21 (.idxS (.tmp 20) (ki 0)), qq 22 (.cvi .i64 (.tmp 21)), qq 23 (.bin .sub (.tmp 22) (ki 192)), qq 24 (.bin .mul (.tmp 23) (ki 64)), qm 25 0, qq 26 (.idxS (.tmp 25) (ki 1)), qq 27 (.cvi .i64 (.tmp 26)), qq 28 (.bin .add (.tmp 24) (.tmp 27)), qq 29 (.bin .sub (.tmp 28) (ki 128)), qm 4 29] none) .skip)) (.seq (.seq (.reg [qm 30 3, qq 31 (.bin .eql (.tmp 30) (ki 3))]) (.cond (.tmp 31) (.drg [qm 32 0, qq 33 (.idxS (.tmp 32) (ki 0)), qq 34 (.cvi .i64 (.tmp 33)), qq 35 (.bin .sub (.tmp 34) (ki 224)), qq 36 (.bin .mul (.tmp 35) (ki 4096)), qm 37 0, qq 38 (.idxS (.tmp 37) (ki 1)), qq 39 (.cvi .i64 (.tmp 38)), qq 40 (.bin .sub (.tmp 39) (ki 128)), qq 41 (.bin .mul (.tmp 40) (ki 64)), qq 42 (.bin .add (.tmp 36) (.tmp 41)), qm 43 0, qq 44 (.idxS (.tmp 43) (ki 2)), qq 45 (.cvi .i64 (.tmp 44)), qq 46 (.bin .add (.tmp 42) (.tmp 45)), qq 47 (.bin .sub (.tmp 46) (ki 128)), qm 4 47] none) .skip)) (.seq (.seq (.reg [qm 48 3, qq 49 (.bin .eql (.tmp 48) (ki 4))]) (.cond (.tmp 49) (.drg [qm 50 0, qq 51 (.idxS (.tmp 50) (ki 0)), qq 52 (.cvi .i64 (.tmp 51)), qq 53 (.bin .sub (.tmp 52) (ki 240)), qq 54 (.bin .mul (.tmp 53) (ki 262144)), qm 55 0, qq 56 (.idxS (.tmp 55) (ki 1)), qq 57 (.cvi .i64 (.tmp 56)), qq 58 (.bin .sub (.tmp 57) (ki 128)), qq 59 (.bin .mul (.tmp 58) (ki 4096)), qq 60 (.bin .add (.tmp 54) (.tmp 59)), qm 61 0, qq 62 (.idxS (.tmp 61) (ki 2)), qq 63 (.cvi .i64 (.tmp 62)), qq 64 (.bin .sub (.tmp 63) (ki 128)), qq 65 (.bin .mul (.tmp 64) (ki 64)), qq 66 (.bin .add (.tmp 60) (.tmp 65)), qm 67 0, qq 68 (.idxS (.tmp 67) (ki 3)), qq 69 (.cvi .i64 (.tmp 68)), qq 70 (.bin .add (.tmp 66) (.tmp 69)), qq 71 (.bin .sub (.tmp 70) (ki 128)), qm 4 71] none) .skip)) (.seq (.drg [qm 72 4, qq 73 (.bin .geq (.tmp 72) (ki 0)), qm 74 73, qmt 74 75 4, qt 74 76 (.bin .leq (.tmp 75) (ki 1114111)), qq 77 (.pick (.tmp 74) (.tmp 76) (kb false)), qm 78 77, qmt 78 79 4, qt 78 80 (.bin .lss (.tmp 79) (ki 55296)), qmt 78 81 80, qmf 81 82 4, qf 81 83 (.bin .gtr (.tmp 82) (ki 57343)), qt 78 84 (.pick (.tmp 81) (kb true) (.tmp 83)), qq 85 (.pick (.tmp 78) (.tmp 84) (kb false)), qm 86 85, qmt 86 87 4, qt 86 88 (.call 71 [(.tmp 87)]), qmt 86 89 0, qmt 86 90 3, qt 86 91 (.slS (.tmp 89) none (.some (.tmp 90))), qt 86 92 (.bin .eql (.tmp 88) (.tmp 91)), qq 93 (.pick (.tmp 86) (.tmp 92) (kb false))] (.some (.leaf [qm 72 4, qq 73 (.bin .geq (.tmp 72) (ki 0)), qm 74 73, qmt 74 75 4, qt 74 76 (.bin .leq (.tmp 75) (ki 1114111)), qq 77 (.pick (.tmp 74) (.tmp 76) (kb false)), qm 78 77, qmt 78 79 4, qt 78 80 (.bin .lss (.tmp 79) (ki 55296)), qmt 78 81 80, qmf 81 82 4, qf 81 83 (.bin .gtr (.tmp 82) (ki 57343)), qt 78 84 (.pick (.tmp 81) (kb true) (.tmp 83)), qq 85 (.pick (.tmp 78) (.tmp 84) (kb false)), qm 86 85, qmt 86 87 4, qmt 86 89 0, qmt 86 90 3, qt 86 91 (.slS (.tmp 89) none (.some (.tmp 90))), qt 86 88 (.call 71 [(.tmp 87)]), qt 86 92 (.bin .eql (.tmp 88) (.tmp 91)), qq 93 (.pick (.tmp 86) (.tmp 92) (kb false))]))) (.cond (.tmp 93) (.seq (.reg [qm 94 3, qm 2 94]) .ret) .skip))))))) (.reg [qm 13 3, qq 14 (.bin .add (.tmp 13) (ki 1)), qm 3 14])))
def c57 : MC := (.seq (.reg [qq 2 (.mv (ki 0))]) (.seq (.seq (.reg [qq 3 (.mv (ki 1))]) (.blk 0 (.loop c57l1))) (.seq (.reg [qq 2 (.mv (ki 0))]) .ret)))
theorem k57 : conv Tryd.prog 95 (Tryd.f57.body.getD .skip) = c57 := by kernel_rfl
theorem in57 {a0 : Value} {w : World} {R : Value → World → Prop} (h : G Tryd.prog Tryd.f57 95 [.c c57] R (frL 0 [a0]) w) : Ret Tryd.prog 57 #[a0] w R := G.enter (args := [a0]) Tryd.func57 (c := Tryd.f57.body.getD .skip) (by kernel_rfl) (by kernel_rfl) (by simp) k57 h
set_option maxRecDepth 100000 in
set_option maxHeartbeats 1000000 in
theorem size_spec (l : List UInt8) (w : World) (hl : l.length ≤ 1000000000000) : Pu Tryd.prog 57 #[S l] w (I (sizeM l)) := by
  refine in57 ?_
  have hS := Sep.start w
  repeat' (first | ((with_reducible apply G.a); exact rfl) | refine G.reg fun K hK => ?_ | (with_reducible (refine hK _ _ ?_); clear hK K) | (with_reducible (refine hK _ ?_); clear hK K; intro wd hxd; have hS := Sep.xx hxd) | (have hk := hK; clear hk; simp (disch := first | exact dis | fail) only [push_cast, ↓reduceIte, Nat.reduceAdd, Nat.reduceLeDiff, Nat.reduceEqDiff, Nat.reduceLT, Int.reduceToNat, fct]) | ((first | refine brO_n ?_ ?_ | refine brQ_n ?_ ?_) <;> intro hb hc <;> first | (with_reducible exact False.elim hc) | (exfalso; omega) | (simp only [hb]; clear hb)) | (refine G.drt mixed fun K hK wd hxd => ?_; have hS := Sep.xx hxd) | with_reducible refine OT_leaf ?_ | refine G.drg mixed fun K hK => ?_ | (refine G.cn ?_ ?_ <;> intro hc <;> first | (with_reducible exact False.elim hc) | (exfalso; omega) | skip))
  refine G.loop (fun r w' => ∃ (k : Nat), 1 ≤ k ∧ k ≤ 5 ∧ r 3 = I k ∧ r 0 = S l ∧ sizeM l = sizeF (6 - k) k l ∧ Sep w w' []) (fun r _ => 5 - toN (r 3)) ?_ ?_
  · exact ⟨1, by omega, by omega, by exact sf, by exact sf, rfl, hS⟩
  · clear hS
    rintro u w' ⟨k, hk1, hk5, h3, h0, e, hS⟩ ih
    have hcb := cand_bd k l
    have hb := bat_le l 0
    have hb1 := bat_le l 1
    have hb2 := bat_le l 2
    have hb3 := bat_le l 3
    unfold bat at hb hb1 hb2 hb3
    by_cases hend : k ≤ 4 ∧ k ≤ l.length
    · obtain ⟨he1, he2⟩ := hend
      have hk : (k : Int) = 1 ∨ (k : Int) = 2 ∨ (k : Int) = 3 ∨ (k : Int) = 4 := by omega
      rcases hk with hk | hk | hk | hk
      · clear hb1 hb2 hb3
        have hc0 := cand1 k l hk
        have hv : I ((l.getD 0 0).toNat : Int) = I (candM k l) := by rw [hc0]
        (have fct := (And.intro @h3 (And.intro @h0 @hv)); repeat' (first | ((with_reducible apply G.a); exact rfl) | refine G.reg fun K hK => ?_ | (with_reducible (refine hK _ _ ?_); clear hK K) | (with_reducible (refine hK _ ?_); clear hK K; intro wd hxd; have hS := Sep.xx hxd) | (have hk := hK; clear hk; simp (disch := first | exact dis | fail) only [push_cast, ↓reduceIte, Nat.reduceAdd, Nat.reduceLeDiff, Nat.reduceEqDiff, Nat.reduceLT, Int.reduceToNat, fct]) | ((first | refine brO_n ?_ ?_ | refine brQ_n ?_ ?_) <;> intro hb hc <;> first | (with_reducible exact False.elim hc) | (exfalso; omega) | (simp only [hb]; clear hb)) | (refine zcp 71 (put_spec _ _ (by omega) (by omega)) ?_; intro wb hS) | (refine G.drt mixed fun K hK wd hxd => ?_; have hS := Sep.xx hxd) | with_reducible refine OT_leaf ?_ | refine G.drg mixed fun K hK => ?_ | (refine G.cn ?_ ?_ <;> intro hc <;> first | (with_reducible exact False.elim hc) | (exfalso; omega) | skip))) <;> (try clear fct)
        all_goals first
        | ((have fct := (And.intro @h3 @h0); (first | refine G.r1 ?_ | refine G.r2 ?_ | refine G.r3 ?_ | refine G.r0 ?_ | refine G.d0 ?_); (try simp (disch := first | exact dis | fail) only [push_cast, ↓reduceIte, Nat.reduceAdd, Nat.reduceLeDiff, Nat.reduceEqDiff, Nat.reduceLT, Int.reduceToNat, fct]); (try clear fct)); refine ⟨?_, Sep.xt (by assumption)⟩; rw [e, sizeF_yes k l (by omega) (by omega) (okM2_yes k l (by omega) (by first | assumption | (rw [← hc0]; assumption)))])
        | (refine ih _ _ ⟨k + 1, by omega, by omega, by simp only [push_cast, ↓reduceIte, Nat.reduceAdd, Nat.reduceLeDiff, Nat.reduceEqDiff, Nat.reduceLT, Int.reduceToNat, h3, h0] <;> rfl, by simp only [push_cast, ↓reduceIte, Nat.reduceAdd, Nat.reduceLeDiff, Nat.reduceEqDiff, Nat.reduceLT, Int.reduceToNat, h3, h0], by rw [e, sizeF_step k l (by omega) (by omega) (by first | exact okM2_no k l (by omega) | exact okM2_ne k l (by first | assumption | (rw [← hc0]; assumption)))], hS⟩ ?_; (simp only [push_cast, ↓reduceIte, Nat.reduceAdd, Nat.reduceLeDiff, Nat.reduceEqDiff, Nat.reduceLT, Int.reduceToNat, toN_i, h3, h0] <;> omega))
      · clear hb2 hb3
        have hc0 := cand2 k l hk
        (have fct := (And.intro @h3 (And.intro @h0 @hc0)); repeat' (first | ((with_reducible apply G.a); exact rfl) | refine G.reg fun K hK => ?_ | (with_reducible (refine hK _ _ ?_); clear hK K) | (with_reducible (refine hK _ ?_); clear hK K; intro wd hxd; have hS := Sep.xx hxd) | (have hk := hK; clear hk; simp (disch := first | exact dis | fail) only [push_cast, ↓reduceIte, Nat.reduceAdd, Nat.reduceLeDiff, Nat.reduceEqDiff, Nat.reduceLT, Int.reduceToNat, fct]) | ((first | refine brO_n ?_ ?_ | refine brQ_n ?_ ?_) <;> intro hb hc <;> first | (with_reducible exact False.elim hc) | (exfalso; omega) | (simp only [hb]; clear hb)) | (refine zcp 71 (put_spec _ _ (by omega) (by omega)) ?_; intro wb hS) | (refine G.drt mixed fun K hK wd hxd => ?_; have hS := Sep.xx hxd) | with_reducible refine OT_leaf ?_ | refine G.drg mixed fun K hK => ?_ | (refine G.cn ?_ ?_ <;> intro hc <;> first | (with_reducible exact False.elim hc) | (exfalso; omega) | skip))) <;> (try clear fct)
        all_goals first
        | ((have fct := (And.intro @h3 @h0); (first | refine G.r1 ?_ | refine G.r2 ?_ | refine G.r3 ?_ | refine G.r0 ?_ | refine G.d0 ?_); (try simp (disch := first | exact dis | fail) only [push_cast, ↓reduceIte, Nat.reduceAdd, Nat.reduceLeDiff, Nat.reduceEqDiff, Nat.reduceLT, Int.reduceToNat, fct]); (try clear fct)); refine ⟨?_, Sep.xt (by assumption)⟩; rw [e, sizeF_yes k l (by omega) (by omega) (okM2_yes k l (by omega) (by first | assumption | (rw [← hc0]; assumption)))])
        | (refine ih _ _ ⟨k + 1, by omega, by omega, by simp only [push_cast, ↓reduceIte, Nat.reduceAdd, Nat.reduceLeDiff, Nat.reduceEqDiff, Nat.reduceLT, Int.reduceToNat, h3, h0] <;> rfl, by simp only [push_cast, ↓reduceIte, Nat.reduceAdd, Nat.reduceLeDiff, Nat.reduceEqDiff, Nat.reduceLT, Int.reduceToNat, h3, h0], by rw [e, sizeF_step k l (by omega) (by omega) (by first | exact okM2_no k l (by omega) | exact okM2_ne k l (by first | assumption | (rw [← hc0]; assumption)))], hS⟩ ?_; (simp only [push_cast, ↓reduceIte, Nat.reduceAdd, Nat.reduceLeDiff, Nat.reduceEqDiff, Nat.reduceLT, Int.reduceToNat, toN_i, h3, h0] <;> omega))
      · clear hb3
        have hc0 := cand3 k l hk
        (have fct := (And.intro @h3 (And.intro @h0 @hc0)); repeat' (first | ((with_reducible apply G.a); exact rfl) | refine G.reg fun K hK => ?_ | (with_reducible (refine hK _ _ ?_); clear hK K) | (with_reducible (refine hK _ ?_); clear hK K; intro wd hxd; have hS := Sep.xx hxd) | (have hk := hK; clear hk; simp (disch := first | exact dis | fail) only [push_cast, ↓reduceIte, Nat.reduceAdd, Nat.reduceLeDiff, Nat.reduceEqDiff, Nat.reduceLT, Int.reduceToNat, fct]) | ((first | refine brO_n ?_ ?_ | refine brQ_n ?_ ?_) <;> intro hb hc <;> first | (with_reducible exact False.elim hc) | (exfalso; omega) | (simp only [hb]; clear hb)) | (refine zcp 71 (put_spec _ _ (by omega) (by omega)) ?_; intro wb hS) | (refine G.drt mixed fun K hK wd hxd => ?_; have hS := Sep.xx hxd) | with_reducible refine OT_leaf ?_ | refine G.drg mixed fun K hK => ?_ | (refine G.cn ?_ ?_ <;> intro hc <;> first | (with_reducible exact False.elim hc) | (exfalso; omega) | skip))) <;> (try clear fct)
        all_goals first
        | ((have fct := (And.intro @h3 @h0); (first | refine G.r1 ?_ | refine G.r2 ?_ | refine G.r3 ?_ | refine G.r0 ?_ | refine G.d0 ?_); (try simp (disch := first | exact dis | fail) only [push_cast, ↓reduceIte, Nat.reduceAdd, Nat.reduceLeDiff, Nat.reduceEqDiff, Nat.reduceLT, Int.reduceToNat, fct]); (try clear fct)); refine ⟨?_, Sep.xt (by assumption)⟩; rw [e, sizeF_yes k l (by omega) (by omega) (okM2_yes k l (by omega) (by first | assumption | (rw [← hc0]; assumption)))])
        | (refine ih _ _ ⟨k + 1, by omega, by omega, by simp only [push_cast, ↓reduceIte, Nat.reduceAdd, Nat.reduceLeDiff, Nat.reduceEqDiff, Nat.reduceLT, Int.reduceToNat, h3, h0] <;> rfl, by simp only [push_cast, ↓reduceIte, Nat.reduceAdd, Nat.reduceLeDiff, Nat.reduceEqDiff, Nat.reduceLT, Int.reduceToNat, h3, h0], by rw [e, sizeF_step k l (by omega) (by omega) (by first | exact okM2_no k l (by omega) | exact okM2_ne k l (by first | assumption | (rw [← hc0]; assumption)))], hS⟩ ?_; (simp only [push_cast, ↓reduceIte, Nat.reduceAdd, Nat.reduceLeDiff, Nat.reduceEqDiff, Nat.reduceLT, Int.reduceToNat, toN_i, h3, h0] <;> omega))
      · have hc0 := cand4 k l hk
        (have fct := (And.intro @h3 (And.intro @h0 @hc0)); repeat' (first | ((with_reducible apply G.a); exact rfl) | refine G.reg fun K hK => ?_ | (with_reducible (refine hK _ _ ?_); clear hK K) | (with_reducible (refine hK _ ?_); clear hK K; intro wd hxd; have hS := Sep.xx hxd) | (have hk := hK; clear hk; simp (disch := first | exact dis | fail) only [push_cast, ↓reduceIte, Nat.reduceAdd, Nat.reduceLeDiff, Nat.reduceEqDiff, Nat.reduceLT, Int.reduceToNat, fct]) | ((first | refine brO_n ?_ ?_ | refine brQ_n ?_ ?_) <;> intro hb hc <;> first | (with_reducible exact False.elim hc) | (exfalso; omega) | (simp only [hb]; clear hb)) | (refine zcp 71 (put_spec _ _ (by omega) (by omega)) ?_; intro wb hS) | (refine G.drt mixed fun K hK wd hxd => ?_; have hS := Sep.xx hxd) | with_reducible refine OT_leaf ?_ | refine G.drg mixed fun K hK => ?_ | (refine G.cn ?_ ?_ <;> intro hc <;> first | (with_reducible exact False.elim hc) | (exfalso; omega) | skip))) <;> (try clear fct)
        all_goals first
        | ((have fct := (And.intro @h3 @h0); (first | refine G.r1 ?_ | refine G.r2 ?_ | refine G.r3 ?_ | refine G.r0 ?_ | refine G.d0 ?_); (try simp (disch := first | exact dis | fail) only [push_cast, ↓reduceIte, Nat.reduceAdd, Nat.reduceLeDiff, Nat.reduceEqDiff, Nat.reduceLT, Int.reduceToNat, fct]); (try clear fct)); refine ⟨?_, Sep.xt (by assumption)⟩; rw [e, sizeF_yes k l (by omega) (by omega) (okM2_yes k l (by omega) (by first | assumption | (rw [← hc0]; assumption)))])
        | (refine ih _ _ ⟨k + 1, by omega, by omega, by simp only [push_cast, ↓reduceIte, Nat.reduceAdd, Nat.reduceLeDiff, Nat.reduceEqDiff, Nat.reduceLT, Int.reduceToNat, h3, h0] <;> rfl, by simp only [push_cast, ↓reduceIte, Nat.reduceAdd, Nat.reduceLeDiff, Nat.reduceEqDiff, Nat.reduceLT, Int.reduceToNat, h3, h0], by rw [e, sizeF_step k l (by omega) (by omega) (by first | exact okM2_no k l (by omega) | exact okM2_ne k l (by first | assumption | (rw [← hc0]; assumption)))], hS⟩ ?_; (simp only [push_cast, ↓reduceIte, Nat.reduceAdd, Nat.reduceLeDiff, Nat.reduceEqDiff, Nat.reduceLT, Int.reduceToNat, toN_i, h3, h0] <;> omega))
    · (have fct := (And.intro @h3 @h0); repeat' (first | ((with_reducible apply G.a); exact rfl) | refine G.reg fun K hK => ?_ | (with_reducible (refine hK _ _ ?_); clear hK K) | (with_reducible (refine hK _ ?_); clear hK K; intro wd hxd; have hS := Sep.xx hxd) | (have hk := hK; clear hk; simp (disch := first | exact dis | fail) only [push_cast, ↓reduceIte, Nat.reduceAdd, Nat.reduceLeDiff, Nat.reduceEqDiff, Nat.reduceLT, Int.reduceToNat, fct]) | ((first | refine brO_n ?_ ?_ | refine brQ_n ?_ ?_) <;> intro hb hc <;> first | (with_reducible exact False.elim hc) | (exfalso; omega) | (simp only [hb]; clear hb)) | (refine zcp 71 (put_spec _ _ (by omega) (by omega)) ?_; intro wb hS) | (refine G.drt mixed fun K hK wd hxd => ?_; have hS := Sep.xx hxd) | with_reducible refine OT_leaf ?_ | refine G.drg mixed fun K hK => ?_ | (refine G.cn ?_ ?_ <;> intro hc <;> first | (with_reducible exact False.elim hc) | (exfalso; omega) | skip))) <;> (try clear fct)
      all_goals
        (have fct := (And.intro @h3 @h0); (first | refine G.r1 ?_ | refine G.r2 ?_ | refine G.r3 ?_ | refine G.r0 ?_ | refine G.d0 ?_); (try simp (disch := first | exact dis | fail) only [push_cast, ↓reduceIte, Nat.reduceAdd, Nat.reduceLeDiff, Nat.reduceEqDiff, Nat.reduceLT, Int.reduceToNat, fct]); (try clear fct))
        refine ⟨?_, Sep.xt (by assumption)⟩
        rw [e, sizeF_end k l (by omega)]; rfl
end Go.Proofs.YtjajihaeoolefaaDoor
namespace Go.Proofs.YtjajihaeoolefaaDoor
set_option linter.unusedSimpArgs false
set_option linter.unusedVariables false
attribute [local irreducible] SemK UnitK StK AlcK BslK CallK CallV Instr.box Builtin.append_ Instr.makeSlice Instr.makeMap Instr.lookup Instr.mapUpdate Instr.sliceAt convert
open Go.RowKit
end Go.Proofs.YtjajihaeoolefaaDoor
namespace Go.Proofs.YtjajihaeoolefaaDoor
set_option linter.unusedSimpArgs false
set_option linter.unusedVariables false
attribute [local irreducible] SemK UnitK StK AlcK BslK CallK CallV Instr.box Builtin.append_ Instr.makeSlice Instr.makeMap Instr.lookup Instr.mapUpdate Instr.sliceAt convert
open Go.RowKit
def c43l1 : MC := (.seq (.seq (.reg [qm 4 3, qm 5 0, qq 6 (.lenS (.tmp 5)), qq 7 (.bin .lss (.tmp 4) (.tmp 6)), qm 8 7, qmt 8 9 0, qmt 8 10 3, qt 8 11 (.slS (.tmp 9) (.some (.tmp 10)) none), qt 8 12 (.call 57 [(.tmp 11)]), qt 8 13 (.bin .gtr (.tmp 12) (ki 0)), qq 14 (.pick (.tmp 8) (.tmp 13) (kb false))]) (.cond (.tmp 14) .skip (.exit 0))) (.blk 1 (.reg [qm 15 3, qm 16 0, qm 17 3, qq 18 (.slS (.tmp 16) (.some (.tmp 17)) none), qq 19 (.call 57 [(.tmp 18)]), qq 20 (.bin .add (.tmp 15) (.tmp 19)), qm 3 20])))
def c43 : MC := (.seq (.reg [qq 2 (.mv (ki 0))]) (.seq (.reg [qq 3 (.mv (ki 0))]) (.seq (.blk 0 (.loop c43l1)) (.seq (.reg [qm 21 3, qm 2 21]) .ret))))
theorem k43 : conv Tryd.prog 22 (Tryd.f43.body.getD .skip) = c43 := by kernel_rfl
theorem in43 {a0 : Value} {w : World} {R : Value → World → Prop} (h : G Tryd.prog Tryd.f43 22 [.c c43] R (frL 0 [a0]) w) : Ret Tryd.prog 43 #[a0] w R := G.enter (args := [a0]) Tryd.func43 (c := Tryd.f43.body.getD .skip) (by kernel_rfl) (by kernel_rfl) (by simp) k43 h
theorem whole_spec (s : List UInt8) (w : World) (hl : s.length ≤ 100000000000) : Pu Tryd.prog 43 #[S s] w (I (wholeM s)) := by
  refine in43 ?_
  repeat' (first | refine G.seq ?_ | refine G.blk ?_ | refine G.endb ?_ | refine G.skip ?_ | refine G.exit rfl ?_ | (refine G.reg fun K hK => ?_; simp (disch := first | omega | (simp only [List.length_cons, List.length_nil, List.length_append]; omega)) only [push_cast, ↓reduceIte, Nat.reduceAdd, Nat.reduceLeDiff, Nat.reduceEqDiff]; (repeat' ((first | refine brO_mk ?_ ?_ | refine brQ_mk ?_ ?_) <;> intro hb <;> (try simp only [Bool.not_eq_true', Bool.not_eq_false'] at hb) <;> have hc := hb <;> (try simp only [hcs, reduceCtorEq] at hc) <;> (try (exfalso; omega)) <;> simp (disch := first | omega | (simp only [List.length_cons, List.length_nil, List.length_append]; omega)) only [push_cast, ↓reduceIte, Nat.reduceAdd, Nat.reduceLeDiff, Nat.reduceEqDiff, hb] <;> clear hb)); all_goals (refine hK _ _ ?_; clear hK K)) | (refine G.cond (by simp only [push_cast, ↓reduceIte, Nat.reduceAdd, Nat.reduceLeDiff, Nat.reduceEqDiff]; rfl) ?_ ?_ <;> intro hc <;> (try simp only [hcs, reduceCtorEq] at hc) <;> (try (exfalso; omega))))
  refine G.loop (fun r w' => ∃ k : Nat, k ≤ s.length ∧ r 3 = I k ∧ r 0 = S s ∧ wholeM s = k + wholeM (s.drop k) ∧ Ext w w') (fun r _ => s.length - toN (r 3)) ?_ ?_
  · exact ⟨0, by omega, by simp only [push_cast, ↓reduceIte, Nat.reduceAdd, Nat.reduceLeDiff, Nat.reduceEqDiff] <;> rfl, by simp only [push_cast, ↓reduceIte, Nat.reduceAdd, Nat.reduceLeDiff, Nat.reduceEqDiff], by simp, Ext.refl _⟩
  rintro u w' ⟨k, hk, h3, h0, e, hx⟩ ih
  have hd : (s.drop k).length ≤ 1000000000000 := by simp only [List.length_drop]; omega
  have hle := sizeM_le (s.drop k)
  simp only [List.length_drop] at hle
  repeat' (first | refine G.seq ?_ | refine G.blk ?_ | refine G.endb ?_ | refine G.skip ?_ | refine G.exit rfl ?_ | (refine G.reg fun K hK => ?_; simp (disch := first | omega | (simp only [List.length_cons, List.length_nil, List.length_append]; omega)) only [push_cast, ↓reduceIte, Nat.reduceAdd, Nat.reduceLeDiff, Nat.reduceEqDiff, h3, h0]; (repeat' ((first | refine brO_mk ?_ ?_ | refine brQ_mk ?_ ?_) <;> intro hb <;> (try simp only [Bool.not_eq_true', Bool.not_eq_false'] at hb) <;> have hc := hb <;> (try simp only [hcs, reduceCtorEq] at hc) <;> (try (exfalso; omega)) <;> simp (disch := first | omega | (simp only [List.length_cons, List.length_nil, List.length_append]; omega)) only [push_cast, ↓reduceIte, Nat.reduceAdd, Nat.reduceLeDiff, Nat.reduceEqDiff, hb, h3, h0] <;> clear hb)); all_goals (refine hK _ _ ?_; clear hK K)) | (refine G.reg fun K hK => ?_; simp (disch := first | omega | (simp only [List.length_cons, List.length_nil, List.length_append]; omega)) only [push_cast, ↓reduceIte, Nat.reduceAdd, Nat.reduceLeDiff, Nat.reduceEqDiff, h3, h0]; (repeat' (first | ((first | refine brO_mk ?_ ?_ | refine brQ_mk ?_ ?_) <;> intro hb <;> (try simp only [Bool.not_eq_true', Bool.not_eq_false'] at hb) <;> have hc := hb <;> (try simp only [hcs, reduceCtorEq] at hc) <;> (try (exfalso; omega)) <;> simp (disch := first | omega | (simp only [List.length_cons, List.length_nil, List.length_append]; omega)) only [push_cast, ↓reduceIte, Nat.reduceAdd, Nat.reduceLeDiff, Nat.reduceEqDiff, hb, h3, h0] <;> clear hb) | (refine CallK.pu (by with_reducible first | exact size_spec _ _ hd) ?_; intro w1 hx1; simp (disch := first | omega | (simp only [List.length_cons, List.length_nil, List.length_append]; omega)) only [push_cast, ↓reduceIte, Nat.reduceAdd, Nat.reduceLeDiff, Nat.reduceEqDiff, h3, h0]))); all_goals (refine hK _ _ ?_; clear hK K)) | (refine G.cond (by simp only [push_cast, ↓reduceIte, Nat.reduceAdd, Nat.reduceLeDiff, Nat.reduceEqDiff]; rfl) ?_ ?_ <;> intro hc <;> (try simp only [hcs, reduceCtorEq] at hc) <;> (try (exfalso; omega))))
  · refine ih _ _ ⟨k + sizeM (s.drop k), by omega, by simp only [push_cast, ↓reduceIte, Nat.reduceAdd, Nat.reduceLeDiff, Nat.reduceEqDiff] <;> simp, by simp only [push_cast, ↓reduceIte, Nat.reduceAdd, Nat.reduceLeDiff, Nat.reduceEqDiff, h0], ?_, (by repeat (first | with_reducible exact Ext.refl _ | with_reducible assumption | with_reducible refine Ext.alloc ?_ _ | with_reducible refine Ext.drew ?_ | refine Ext.trans ?_ (by assumption)))⟩ ?_
    · rw [e, wholeM_yes (s.drop k) (by intro h; have := congrArg List.length h; simp only [List.length_drop, List.length_nil] at this; omega) (by omega), List.drop_drop]; omega
    · simp only [push_cast, ↓reduceIte, Nat.reduceAdd, Nat.reduceLeDiff, Nat.reduceEqDiff, h3, toN_i]; omega
  · (refine G.ret1 rfl ?_; simp only [push_cast, ↓reduceIte, Nat.reduceAdd, Nat.reduceLeDiff, Nat.reduceEqDiff, h3])
    refine ⟨?_, (by repeat (first | with_reducible exact Ext.refl _ | with_reducible assumption | with_reducible refine Ext.alloc ?_ _ | with_reducible refine Ext.drew ?_ | refine Ext.trans ?_ (by assumption)))⟩
    rw [e, wholeM_no (s.drop k) (by omega)]; simp
  · (refine G.ret1 rfl ?_; simp only [push_cast, ↓reduceIte, Nat.reduceAdd, Nat.reduceLeDiff, Nat.reduceEqDiff, h3])
    refine ⟨?_, (by repeat (first | with_reducible exact Ext.refl _ | with_reducible assumption | with_reducible refine Ext.alloc ?_ _ | with_reducible refine Ext.drew ?_ | refine Ext.trans ?_ (by assumption)))⟩
    rw [e, wholeM_no (s.drop k) (fun h => h.1 (List.drop_eq_nil_of_le (by omega)))]; simp
end Go.Proofs.YtjajihaeoolefaaDoor
namespace Go.Proofs.YtjajihaeoolefaaDoor
set_option linter.unusedSimpArgs false
set_option linter.unusedVariables false
attribute [local irreducible] SemK UnitK StK AlcK BslK CallK CallV Instr.box Builtin.append_ Instr.makeSlice Instr.makeMap Instr.lookup Instr.mapUpdate Instr.sliceAt convert
open Go.RowKit
def c85 : MC := (.seq (.reg [qq 4 (.mv (kb false))]) (.seq (.reg [qm 5 0, qq 6 (.lenS (.tmp 5)), qm 7 1, qq 8 (.lenS (.tmp 7)), qq 9 (.bin .geq (.tmp 6) (.tmp 8)), qm 10 9, qmt 10 11 0, qmt 10 12 1, qt 10 13 (.lenS (.tmp 12)), qt 10 14 (.slS (.tmp 11) none (.some (.tmp 13))), qmt 10 15 1, qt 10 16 (.bin .eql (.tmp 14) (.tmp 15)), qq 17 (.pick (.tmp 10) (.tmp 16) (kb false)), qm 4 17]) .ret))
theorem k85 : conv Tryd.prog 18 (Tryd.f85.body.getD .skip) = c85 := by kernel_rfl
theorem in85 {a0 a1 : Value} {w : World} {R : Value → World → Prop} (h : G Tryd.prog Tryd.f85 18 [.c c85] R (frL 0 [a0, a1]) w) : Ret Tryd.prog 85 #[a0, a1] w R := G.enter (args := [a0, a1]) Tryd.func85 (c := Tryd.f85.body.getD .skip) (by kernel_rfl) (by kernel_rfl) (by simp) k85 h
theorem hp_spec (s p : Str) (w : World) (hl : s.length ≤ 1000000000) (hp : p.length ≤ 1000000000) : Pu Tryd.prog 85 #[S s, S p] w (.bool (s.take p.length == p)) := by
  refine in85 ?_
  have hS := Sep.start w
  by_cases h : (p.length : Int) ≤ s.length
  · (have fct := @h; repeat' (first | ((with_reducible apply G.a); exact rfl) | refine G.reg fun K hK => ?_ | (with_reducible (refine hK _ _ ?_); clear hK K) | (have hk := hK; clear hk; simp (disch := first | exact dis | fail) only [push_cast, ↓reduceIte, Nat.reduceAdd, Nat.reduceLeDiff, Nat.reduceEqDiff, Nat.reduceLT, Int.reduceToNat, fct]) | (refine brO_n ?_ ?_ <;> intro hb hc <;> first | (with_reducible exact False.elim hc) | (exfalso; omega) | (simp only [hb]; clear hb)))) <;> (try clear fct)
    all_goals
      (have fct := @h; (first | refine G.r1 ?_ | refine G.r2 ?_ | refine G.r3 ?_ | refine G.r0 ?_ | refine G.d0 ?_); (try simp (disch := first | exact dis | fail) only [push_cast, ↓reduceIte, Nat.reduceAdd, Nat.reduceLeDiff, Nat.reduceEqDiff, Nat.reduceLT, Int.reduceToNat, fct]); (try clear fct))
      (first | exact Sep.xt (by assumption) | exact ⟨rfl, Sep.xt (by assumption)⟩)
  · have hne : (s.take p.length == p) = false := by
      rw [beq_eq_false_iff_ne]
      intro e
      have := congrArg List.length e
      simp at this; omega
    (have fct := @h; repeat' (first | ((with_reducible apply G.a); exact rfl) | refine G.reg fun K hK => ?_ | (with_reducible (refine hK _ _ ?_); clear hK K) | (have hk := hK; clear hk; simp (disch := first | exact dis | fail) only [push_cast, ↓reduceIte, Nat.reduceAdd, Nat.reduceLeDiff, Nat.reduceEqDiff, Nat.reduceLT, Int.reduceToNat, fct]) | (refine brO_n ?_ ?_ <;> intro hb hc <;> first | (with_reducible exact False.elim hc) | (exfalso; omega) | (simp only [hb]; clear hb)))) <;> (try clear fct)
    all_goals
      (have fct := @h; (first | refine G.r1 ?_ | refine G.r2 ?_ | refine G.r3 ?_ | refine G.r0 ?_ | refine G.d0 ?_); (try simp (disch := first | exact dis | fail) only [push_cast, ↓reduceIte, Nat.reduceAdd, Nat.reduceLeDiff, Nat.reduceEqDiff, Nat.reduceLT, Int.reduceToNat, fct]); (try clear fct))
      rw [hne]
      (first | exact Sep.xt (by assumption) | exact ⟨rfl, Sep.xt (by assumption)⟩)
def c75 : MC := (.seq (.reg [qq 4 (.mv (.const (S []))), qq 5 (.mv (kb false))]) (.seq (.seq (.reg [qm 6 0, qm 7 1, qq 8 (.call 85 [(.tmp 6), (.tmp 7)]), qq 9 (.un .not (.tmp 8))]) (.cond (.tmp 9) (.seq (.reg [qm 10 0, qm 4 10, qq 5 (.mv (kb false))]) .ret) .skip)) (.seq (.reg [qm 11 0, qm 12 1, qq 13 (.lenS (.tmp 12)), qq 14 (.slS (.tmp 11) (.some (.tmp 13)) none), qm 4 14, qq 5 (.mv (kb true))]) .ret)))
theorem k75 : conv Tryd.prog 15 (Tryd.f75.body.getD .skip) = c75 := by kernel_rfl
theorem in75 {a0 a1 : Value} {w : World} {R : Value → World → Prop} (h : G Tryd.prog Tryd.f75 15 [.c c75] R (frL 0 [a0, a1]) w) : Ret Tryd.prog 75 #[a0, a1] w R := G.enter (args := [a0, a1]) Tryd.func75 (c := Tryd.f75.body.getD .skip) (by kernel_rfl) (by kernel_rfl) (by simp) k75 h
theorem cutp0_spec (s p : Str) (w : World) (hl : s.length ≤ 1000000000) (hp : p.length ≤ 1000000000) : Pu Tryd.prog 75 #[S s, S p] w (.tuple #[S (if (s.take p.length == p) = true then s.drop p.length else s), .bool (s.take p.length == p)]) := by
  refine in75 ?_
  have hS := Sep.start w
  cases h : (s.take p.length == p)
  · rw [if_neg (by simp)]
    (have fct := @h; repeat' (first | ((with_reducible apply G.a); exact rfl) | refine G.reg fun K hK => ?_ | (with_reducible (refine hK _ _ ?_); clear hK K) | (have hk := hK; clear hk; simp (disch := first | exact dis | fail) only [push_cast, ↓reduceIte, Nat.reduceAdd, Nat.reduceLeDiff, Nat.reduceEqDiff, Nat.reduceLT, Int.reduceToNat, fct]) | (refine zcp 85 (hp_spec s p _ hl hp) ?_; intro wb hS) | (refine G.cn ?_ ?_ <;> intro hc <;> first | (with_reducible exact False.elim hc) | (exfalso; omega) | skip))) <;> (try clear fct)
    all_goals
      (have fct := @h; (first | refine G.r1 ?_ | refine G.r2 ?_ | refine G.r3 ?_ | refine G.r0 ?_ | refine G.d0 ?_); (try simp (disch := first | exact dis | fail) only [push_cast, ↓reduceIte, Nat.reduceAdd, Nat.reduceLeDiff, Nat.reduceEqDiff, Nat.reduceLT, Int.reduceToNat, fct]); (try clear fct))
      (first | exact Sep.xt (by assumption) | exact ⟨rfl, Sep.xt (by assumption)⟩)
  · rw [if_pos rfl]
    have hlen : (p.length : Int) ≤ s.length := by
      have e : s.take p.length = p := by simpa using h
      have := congrArg List.length e
      simp at this; omega
    (have fct := @h; repeat' (first | ((with_reducible apply G.a); exact rfl) | refine G.reg fun K hK => ?_ | (with_reducible (refine hK _ _ ?_); clear hK K) | (have hk := hK; clear hk; simp (disch := first | exact dis | fail) only [push_cast, ↓reduceIte, Nat.reduceAdd, Nat.reduceLeDiff, Nat.reduceEqDiff, Nat.reduceLT, Int.reduceToNat, fct]) | (refine zcp 85 (hp_spec s p _ hl hp) ?_; intro wb hS) | (refine G.cn ?_ ?_ <;> intro hc <;> first | (with_reducible exact False.elim hc) | (exfalso; omega) | skip))) <;> (try clear fct)
    all_goals
      (have fct := @h; (first | refine G.r1 ?_ | refine G.r2 ?_ | refine G.r3 ?_ | refine G.r0 ?_ | refine G.d0 ?_); (try simp (disch := first | exact dis | fail) only [push_cast, ↓reduceIte, Nat.reduceAdd, Nat.reduceLeDiff, Nat.reduceEqDiff, Nat.reduceLT, Int.reduceToNat, fct]); (try clear fct))
      (first | exact Sep.xt (by assumption) | exact ⟨rfl, Sep.xt (by assumption)⟩)
def c66 : MC := (.seq (.reg [qq 4 (.mv (.const (S []))), qq 5 (.mv (kb false))]) (.seq (.reg [qm 6 0, qm 7 1, qq 8 (.call 75 [(.tmp 6), (.tmp 7)]), qq 9 (.ext 0 (.tmp 8)), qq 10 (.ext 1 (.tmp 8)), qm 4 9, qm 5 10]) .ret))
theorem k66 : conv Tryd.prog 11 (Tryd.f66.body.getD .skip) = c66 := by kernel_rfl
theorem in66 {a0 a1 : Value} {w : World} {R : Value → World → Prop} (h : G Tryd.prog Tryd.f66 11 [.c c66] R (frL 0 [a0, a1]) w) : Ret Tryd.prog 66 #[a0, a1] w R := G.enter (args := [a0, a1]) Tryd.func66 (c := Tryd.f66.body.getD .skip) (by kernel_rfl) (by kernel_rfl) (by simp) k66 h
theorem cutp_spec (s p : Str) (w : World) (hl : s.length ≤ 1000000000) (hp : p.length ≤ 1000000000) : Pu Tryd.prog 66 #[S s, S p] w (.tuple #[S (if (s.take p.length == p) = true then s.drop p.length else s), .bool (s.take p.length == p)]) := by
  refine in66 ?_
  have hS := Sep.start w
  repeat' (first | ((with_reducible apply G.a); exact rfl) | refine G.reg fun K hK => ?_ | (with_reducible (refine hK _ _ ?_); clear hK K) | (have hk := hK; clear hk; simp (disch := first | exact dis | fail) only [push_cast, ↓reduceIte, Nat.reduceAdd, Nat.reduceLeDiff, Nat.reduceEqDiff, Nat.reduceLT, Int.reduceToNat, fct]) | (refine zcp 75 (cutp0_spec s p _ hl hp) ?_; intro wb hS))
  (first | refine G.r1 ?_ | refine G.r2 ?_ | refine G.r3 ?_ | refine G.r0 ?_ | refine G.d0 ?_); (try simp (disch := first | exact dis | fail) only [push_cast, ↓reduceIte, Nat.reduceAdd, Nat.reduceLeDiff, Nat.reduceEqDiff, Nat.reduceLT, Int.reduceToNat, fct])
  (first | exact Sep.xt (by assumption) | exact ⟨rfl, Sep.xt (by assumption)⟩)
end Go.Proofs.YtjajihaeoolefaaDoor
