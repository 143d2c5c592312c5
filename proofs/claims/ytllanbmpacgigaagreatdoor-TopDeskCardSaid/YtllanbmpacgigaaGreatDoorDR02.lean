/- Texts of the proof, joined. -/
import Derived.Test.YtllanbmpacgigaaGreatDoorProg
import Derived.Test.YtllanbmpacgigaaGreatDoorDMc
import Derived.Test.YtllanbmpacgigaaGreatDoorDPa
namespace Go.Proofs.YtllanbmpacgigaaGreatDoor
open Nat renaming reduceAdd→zq1,reduceLeDiff→zq2,reduceEqDiff→zq3,reduceLT→zq4
open Int renaming reduceToNat→zq5
set_option linter.unusedSimpArgs false
set_option linter.unusedVariables false
attribute [local irreducible] SemK UnitK StK AlcK BslK CallK CallV Instr.box Builtin.append_ Instr.makeSlice Instr.makeMap Instr.lookup Instr.mapUpdate Instr.sliceAt convert
open Go.RowKit
theorem mixed:Tryz.prog.follows .mixedOrders=true:=by kernel_rfl
section
variable {w:World} {g cap:Nat} {t:TypeId} {a b c d:Int}
theorem blk_at {xs:List Value} (h:Blk w g t xs.toArray) (i:Nat) (hi:i < xs.length):w.cell? ((⟨g,0,none⟩:Addr).add i)=some (xs.getD i undef):=by
  rw [addg,Nat.zero_add,h.cell]
  simp [List.getD_eq_getElem?_getD,List.getElem?_eq_getElem hi]
theorem okB2s_b3 (h:Blk w g t [.int .u8 a,.int .u8 b,.int .u8 c].toArray):okB2s w (.slice (some ⟨g,0,none⟩) 3 cap)=True:=by
  apply eq_true
  intro j hj
  have:j=0∨j=1∨j=2:=by omega
  rcases this with rfl|rfl|rfl<;>exact ⟨_,blk_at h _ (by simp)⟩
theorem b2sV_b3 (h:Blk w g t [.int .u8 a,.int .u8 b,.int .u8 c].toArray):b2sV w (.slice (some ⟨g,0,none⟩) 3 cap)=S [UInt8.ofNat a.toNat,UInt8.ofNat b.toNat,UInt8.ofNat c.toNat]:=by
  simp only [b2sV,show List.range 3=[0,1,2] from rfl,List.map_cons,List.map_nil,blk_at h 0 (by simp),blk_at h 1 (by simp),blk_at h 2 (by simp)]
  rfl
theorem okB2s_b4 (h:Blk w g t [.int .u8 a,.int .u8 b,.int .u8 c,.int .u8 d].toArray):okB2s w (.slice (some ⟨g,0,none⟩) 4 cap)=True:=by
  apply eq_true
  intro j hj
  have:j=0∨j=1∨j=2∨j=3:=by omega
  rcases this with rfl|rfl|rfl|rfl<;>exact ⟨_,blk_at h _ (by simp)⟩
theorem b2sV_b4 (h:Blk w g t [.int .u8 a,.int .u8 b,.int .u8 c,.int .u8 d].toArray):b2sV w (.slice (some ⟨g,0,none⟩) 4 cap)=S [UInt8.ofNat a.toNat,UInt8.ofNat b.toNat,UInt8.ofNat c.toNat,UInt8.ofNat d.toNat]:=by
  simp only [b2sV,show List.range 4=[0,1,2,3] from rfl,List.map_cons,List.map_nil,blk_at h 0 (by simp),blk_at h 1 (by simp),blk_at h 2 (by simp),blk_at h 3 (by simp)]
  rfl
end
def c90:MC:=(.seq (.reg [qq 2 (.mv (.const (S [])))]) (.seq (.seq (.reg [qm 3 0,qq 4 (.bin .lss (.tmp 3) (ki 128))]) (.cond (.tmp 4) (.seq (.reg [qm 5 0,qq 6 (.cvi .u8 (.tmp 5)),qq 7 (.bsl 5 [(.int .u8 0)] 1 [⟨0,⟨1,(.tmp 6)⟩⟩]),qq 8 (.b2s (.tmp 7)),qm 2 8]) .ret) .skip)) (.seq (.seq (.reg [qm 9 0,qq 10 (.bin .lss (.tmp 9) (ki 2048))]) (.cond (.tmp 10) (.seq (.reg [qm 11 0,qq 12 (.bin .quo (.tmp 11) (ki 64)),qq 13 (.bin .add (ki 192) (.tmp 12)),qq 14 (.cvi .u8 (.tmp 13)),qm 15 0,qq 16 (.bin .rem (.tmp 15) (ki 64)),qq 17 (.bin .add (ki 128) (.tmp 16)),qq 18 (.cvi .u8 (.tmp 17)),qq 19 (.bsl 5 [(.int .u8 0),(.int .u8 0)] 2 [⟨0,⟨1,(.tmp 14)⟩⟩,⟨1,⟨1,(.tmp 18)⟩⟩]),qq 20 (.b2s (.tmp 19)),qm 2 20]) .ret) .skip)) (.seq (.seq (.reg [qm 21 0,qq 22 (.bin .lss (.tmp 21) (ki 65536))]) (.cond (.tmp 22) (.seq (.reg [qm 23 0,qq 24 (.bin .quo (.tmp 23) (ki 4096)),qq 25 (.bin .add (ki 224) (.tmp 24)),qq 26 (.cvi .u8 (.tmp 25)),qm 27 0,qq 28 (.bin .quo (.tmp 27) (ki 64)),qq 29 (.bin .rem (.tmp 28) (ki 64)),qq 30 (.bin .add (ki 128) (.tmp 29)),qq 31 (.cvi .u8 (.tmp 30)),qm 32 0,qq 33 (.bin .rem (.tmp 32) (ki 64)),qq 34 (.bin .add (ki 128) (.tmp 33)),qq 35 (.cvi .u8 (.tmp 34)),qq 36 (.bsl 5 [(.int .u8 0),(.int .u8 0),(.int .u8 0)] 3 [⟨0,⟨1,(.tmp 26)⟩⟩,⟨1,⟨1,(.tmp 31)⟩⟩,⟨2,⟨1,(.tmp 35)⟩⟩]),qq 37 (.b2s (.tmp 36)),qm 2 37]) .ret) .skip)) (.seq (.reg [qm 38 0,qq 39 (.bin .quo (.tmp 38) (ki 262144)),qq 40 (.bin .add (ki 240) (.tmp 39)),qq 41 (.cvi .u8 (.tmp 40)),qm 42 0,qq 43 (.bin .quo (.tmp 42) (ki 4096)),qq 44 (.bin .rem (.tmp 43) (ki 64)),qq 45 (.bin .add (ki 128) (.tmp 44)),qq 46 (.cvi .u8 (.tmp 45)),qm 47 0,qq 48 (.bin .quo (.tmp 47) (ki 64)),qq 49 (.bin .rem (.tmp 48) (ki 64)),qq 50 (.bin .add (ki 128) (.tmp 49)),qq 51 (.cvi .u8 (.tmp 50)),qm 52 0,qq 53 (.bin .rem (.tmp 52) (ki 64)),qq 54 (.bin .add (ki 128) (.tmp 53)),qq 55 (.cvi .u8 (.tmp 54)),qq 56 (.bsl 5 [(.int .u8 0),(.int .u8 0),(.int .u8 0),(.int .u8 0)] 4 [⟨0,⟨1,(.tmp 41)⟩⟩,⟨1,⟨1,(.tmp 46)⟩⟩,⟨2,⟨1,(.tmp 51)⟩⟩,⟨3,⟨1,(.tmp 55)⟩⟩]),qq 57 (.b2s (.tmp 56)),qm 2 57]) .ret)))))
theorem k90:conv Tryz.prog 58 (Tryz.f90.body.getD .skip)=c90:=by kernel_rfl
theorem in90 {a0:Value} {w:World} {R:Value→World→Prop} (h:G Tryz.prog Tryz.f90 58 [.c c90] R (frL 0 [a0]) w):Ret Tryz.prog 90 #[a0] w R:=G.enter (args:=[a0]) Tryz.func90 (c:=Tryz.f90.body.getD .skip) (by kernel_rfl) (by kernel_rfl) (by simp) k90 h
theorem put_spec (c:Int) (w:World) (h0:0≤c) (h1:c≤1114111):Pu Tryz.prog 90 #[I c] w (S (putM c)):=by
  refine in90 ?_
  have hS:=Sep.start w
  unfold putM
  (have fct:=(And.intro @okB2s_b3 (And.intro @okB2s_b4 (And.intro @b2sV_b3 @b2sV_b4)));repeat' (first|((with_reducible apply G.a);exact rfl)|refine G.reg fun K hK=>?_|(with_reducible (refine hK _ _ ?_);clear hK K)|(have hk:=hK;clear hk;simp (disch:=first|exact dis|fail) only [push_cast,↓reduceIte,zq1,zq2,zq3,zq4,zq5,fct])|(refine zbsl ?_;intro gb wb hS)|(refine G.cn ?_ ?_<;>intro hc<;>first|(with_reducible exact False.elim hc)|(exfalso;omega)|skip)))<;>(try clear fct)
  all_goals
    (have fct:=(And.intro @okB2s_b3 (And.intro @okB2s_b4 (And.intro @b2sV_b3 @b2sV_b4)));(first|refine G.r1 ?_|refine G.r2 ?_|refine G.r3 ?_|refine G.r0 ?_|refine G.d0 ?_);(try simp (disch:=first|exact dis|fail) only [push_cast,↓reduceIte,zq1,zq2,zq3,zq4,zq5,fct]);(try clear fct))
    refine ⟨?_,Sep.xt (by assumption)⟩
    clear hS
    simp (disch:=omega) only [if_pos,if_neg]
def c58l1:MC:=(.seq (.seq (.reg [qm 5 3,qq 6 (.bin .leq (.tmp 5) (ki 4)),qm 7 6,qmt 7 8 3,qmt 7 9 0,qt 7 10 (.lenS (.tmp 9)),qt 7 11 (.bin .leq (.tmp 8) (.tmp 10)),qq 12 (.pick (.tmp 7) (.tmp 11) (kb false))]) (.cond (.tmp 12) .skip (.exit 0))) (.seq (.blk 1 (.seq (.reg [qm 15 0,qq 16 (.idxS (.tmp 15) (ki 0)),qq 17 (.cvi .i64 (.tmp 16)),qm 4 17]) (.seq (.seq (.reg [qm 18 3,qq 19 (.bin .eql (.tmp 18) (ki 2))]) (.cond (.tmp 19) (.drg [qm 20 0,qq 21 (.idxS (.tmp 20) (ki 0)),qq 22 (.cvi .i64 (.tmp 21)),qq 23 (.bin .sub (.tmp 22) (ki 192)),qq 24 (.bin .mul (.tmp 23) (ki 64)),qm 25 0,qq 26 (.idxS (.tmp 25) (ki 1)),qq 27 (.cvi .i64 (.tmp 26)),qq 28 (.bin .add (.tmp 24) (.tmp 27)),qq 29 (.bin .sub (.tmp 28) (ki 128)),qm 4 29] none) .skip)) (.seq (.seq (.reg [qm 30 3,qq 31 (.bin .eql (.tmp 30) (ki 3))]) (.cond (.tmp 31) (.drg [qm 32 0,qq 33 (.idxS (.tmp 32) (ki 0)),qq 34 (.cvi .i64 (.tmp 33)),qq 35 (.bin .sub (.tmp 34) (ki 224)),qq 36 (.bin .mul (.tmp 35) (ki 4096)),qm 37 0,qq 38 (.idxS (.tmp 37) (ki 1)),qq 39 (.cvi .i64 (.tmp 38)),qq 40 (.bin .sub (.tmp 39) (ki 128)),qq 41 (.bin .mul (.tmp 40) (ki 64)),qq 42 (.bin .add (.tmp 36) (.tmp 41)),qm 43 0,qq 44 (.idxS (.tmp 43) (ki 2)),qq 45 (.cvi .i64 (.tmp 44)),qq 46 (.bin .add (.tmp 42) (.tmp 45)),qq 47 (.bin .sub (.tmp 46) (ki 128)),qm 4 47] none) .skip)) (.seq (.seq (.reg [qm 48 3,qq 49 (.bin .eql (.tmp 48) (ki 4))]) (.cond (.tmp 49) (.drg [qm 50 0,qq 51 (.idxS (.tmp 50) (ki 0)),qq 52 (.cvi .i64 (.tmp 51)),qq 53 (.bin .sub (.tmp 52) (ki 240)),qq 54 (.bin .mul (.tmp 53) (ki 262144)),qm 55 0,qq 56 (.idxS (.tmp 55) (ki 1)),qq 57 (.cvi .i64 (.tmp 56)),qq 58 (.bin .sub (.tmp 57) (ki 128)),qq 59 (.bin .mul (.tmp 58) (ki 4096)),qq 60 (.bin .add (.tmp 54) (.tmp 59)),qm 61 0,qq 62 (.idxS (.tmp 61) (ki 2)),qq 63 (.cvi .i64 (.tmp 62)),qq 64 (.bin .sub (.tmp 63) (ki 128)),qq 65 (.bin .mul (.tmp 64) (ki 64)),qq 66 (.bin .add (.tmp 60) (.tmp 65)),qm 67 0,qq 68 (.idxS (.tmp 67) (ki 3)),qq 69 (.cvi .i64 (.tmp 68)),qq 70 (.bin .add (.tmp 66) (.tmp 69)),qq 71 (.bin .sub (.tmp 70) (ki 128)),qm 4 71] none) .skip)) (.seq (.drg [qm 72 4,qq 73 (.bin .geq (.tmp 72) (ki 0)),qm 74 73,qmt 74 75 4,qt 74 76 (.bin .leq (.tmp 75) (ki 1114111)),qq 77 (.pick (.tmp 74) (.tmp 76) (kb false)),qm 78 77,qmt 78 79 4,qt 78 80 (.bin .lss (.tmp 79) (ki 55296)),qmt 78 81 80,qmf 81 82 4,qf 81 83 (.bin .gtr (.tmp 82) (ki 57343)),qt 78 84 (.pick (.tmp 81) (kb true) (.tmp 83)),qq 85 (.pick (.tmp 78) (.tmp 84) (kb false)),qm 86 85,qmt 86 87 4,qt 86 88 (.call 90 [(.tmp 87)]),qmt 86 89 0,qmt 86 90 3,qt 86 91 (.slS (.tmp 89) none (.some (.tmp 90))),qt 86 92 (.bin .eql (.tmp 88) (.tmp 91)),qq 93 (.pick (.tmp 86) (.tmp 92) (kb false))] (.some (.leaf [qm 72 4,qq 73 (.bin .geq (.tmp 72) (ki 0)),qm 74 73,qmt 74 75 4,qt 74 76 (.bin .leq (.tmp 75) (ki 1114111)),qq 77 (.pick (.tmp 74) (.tmp 76) (kb false)),qm 78 77,qmt 78 79 4,qt 78 80 (.bin .lss (.tmp 79) (ki 55296)),qmt 78 81 80,qmf 81 82 4,qf 81 83 (.bin .gtr (.tmp 82) (ki 57343)),qt 78 84 (.pick (.tmp 81) (kb true) (.tmp 83)),qq 85 (.pick (.tmp 78) (.tmp 84) (kb false)),qm 86 85,qmt 86 87 4,qmt 86 89 0,qmt 86 90 3,qt 86 91 (.slS (.tmp 89) none (.some (.tmp 90))),qt 86 88 (.call 90 [(.tmp 87)]),qt 86 92 (.bin .eql (.tmp 88) (.tmp 91)),qq 93 (.pick (.tmp 86) (.tmp 92) (kb false))]))) (.cond (.tmp 93) (.seq (.reg [qm 94 3,qm 2 94]) .ret) .skip))))))) (.reg [qm 13 3,qq 14 (.bin .add (.tmp 13) (ki 1)),qm 3 14])))
def c58:MC:=(.seq (.reg [qq 2 (.mv (ki 0))]) (.seq (.seq (.reg [qq 3 (.mv (ki 1))]) (.blk 0 (.loop c58l1))) (.seq (.reg [qq 2 (.mv (ki 0))]) .ret)))
theorem k58:conv Tryz.prog 95 (Tryz.f58.body.getD .skip)=c58:=by kernel_rfl
theorem in58 {a0:Value} {w:World} {R:Value→World→Prop} (h:G Tryz.prog Tryz.f58 95 [.c c58] R (frL 0 [a0]) w):Ret Tryz.prog 58 #[a0] w R:=G.enter (args:=[a0]) Tryz.func58 (c:=Tryz.f58.body.getD .skip) (by kernel_rfl) (by kernel_rfl) (by simp) k58 h
set_option maxRecDepth 100000 in
set_option maxHeartbeats 1000000 in
theorem size_spec (l:List UInt8) (w:World) (hl:l.length≤1000000000000):Pu Tryz.prog 58 #[S l] w (I (sizeM l)):=by
  refine in58 ?_
  have hS:=Sep.start w
  repeat' (first|((with_reducible apply G.a);exact rfl)|refine G.reg fun K hK=>?_|(with_reducible (refine hK _ _ ?_);clear hK K)|(with_reducible (refine hK _ ?_);clear hK K;intro wd hxd;have hS:=Sep.xx hxd)|(have hk:=hK;clear hk;simp (disch:=first|exact dis|fail) only [push_cast,↓reduceIte,zq1,zq2,zq3,zq4,zq5,fct])|((first|refine brO_n ?_ ?_|refine brQ_n ?_ ?_)<;>intro hb hc<;>first|(with_reducible exact False.elim hc)|(exfalso;omega)|(simp only [hb];clear hb))|(refine G.drt mixed fun K hK wd hxd=>?_;have hS:=Sep.xx hxd)|with_reducible refine OT_leaf ?_|refine G.drg mixed fun K hK=>?_|(refine G.cn ?_ ?_<;>intro hc<;>first|(with_reducible exact False.elim hc)|(exfalso;omega)|skip))
  refine G.loop (fun r w'=>∃ (k:Nat),1≤k∧k≤5∧r 3=I k∧r 0=S l∧sizeM l=sizeF (6 - k) k l∧Sep w w' []) (fun r _=>5 - toN (r 3)) ?_ ?_
  · exact ⟨1,by omega,by omega,by exact sf,by exact sf,rfl,hS⟩
  · clear hS
    rintro u w' ⟨k,hk1,hk5,h3,h0,e,hS⟩ ih
    have hcb:=cand_bd k l
    have hb:=bat_le l 0
    have hb1:=bat_le l 1
    have hb2:=bat_le l 2
    have hb3:=bat_le l 3
    unfold bat at hb hb1 hb2 hb3
    by_cases hend:k≤4∧k≤l.length
    · obtain ⟨he1,he2⟩:=hend
      have hk:(k:Int)=1∨(k:Int)=2∨(k:Int)=3∨(k:Int)=4:=by omega
      rcases hk with hk|hk|hk|hk
      · clear hb1 hb2 hb3
        have hc0:=cand1 k l hk
        have hv:I ((l.getD 0 0).toNat:Int)=I (candM k l):=by rw [hc0]
        (have fct:=(And.intro @h3 (And.intro @h0 @hv));repeat' (first|((with_reducible apply G.a);exact rfl)|refine G.reg fun K hK=>?_|(with_reducible (refine hK _ _ ?_);clear hK K)|(with_reducible (refine hK _ ?_);clear hK K;intro wd hxd;have hS:=Sep.xx hxd)|(have hk:=hK;clear hk;simp (disch:=first|exact dis|fail) only [push_cast,↓reduceIte,zq1,zq2,zq3,zq4,zq5,fct])|((first|refine brO_n ?_ ?_|refine brQ_n ?_ ?_)<;>intro hb hc<;>first|(with_reducible exact False.elim hc)|(exfalso;omega)|(simp only [hb];clear hb))|(refine zcp 90 (put_spec _ _ (by omega) (by omega)) ?_;intro wb hS)|(refine G.drt mixed fun K hK wd hxd=>?_;have hS:=Sep.xx hxd)|with_reducible refine OT_leaf ?_|refine G.drg mixed fun K hK=>?_|(refine G.cn ?_ ?_<;>intro hc<;>first|(with_reducible exact False.elim hc)|(exfalso;omega)|skip)))<;>(try clear fct)
        all_goals first
        | ((have fct:=(And.intro @h3 @h0);(first|refine G.r1 ?_|refine G.r2 ?_|refine G.r3 ?_|refine G.r0 ?_|refine G.d0 ?_);(try simp (disch:=first|exact dis|fail) only [push_cast,↓reduceIte,zq1,zq2,zq3,zq4,zq5,fct]);(try clear fct));refine ⟨?_,Sep.xt (by assumption)⟩;rw [e,sizeF_yes k l (by omega) (by omega) (okM2_yes k l (by omega) (by first|assumption|(rw [←hc0];assumption)))])
        | (refine ih _ _ ⟨k+1,by omega,by omega,by simp only [push_cast,↓reduceIte,zq1,zq2,zq3,zq4,zq5,h3,h0]<;>rfl,by simp only [push_cast,↓reduceIte,zq1,zq2,zq3,zq4,zq5,h3,h0],by rw [e,sizeF_step k l (by omega) (by omega) (by first|exact okM2_no k l (by omega)|exact okM2_ne k l (by first|assumption|(rw [←hc0];assumption)))],hS⟩ ?_;(simp only [push_cast,↓reduceIte,zq1,zq2,zq3,zq4,zq5,toN_i,h3,h0]<;>omega))
      · clear hb2 hb3
        have hc0:=cand2 k l hk
        (have fct:=(And.intro @h3 (And.intro @h0 @hc0));repeat' (first|((with_reducible apply G.a);exact rfl)|refine G.reg fun K hK=>?_|(with_reducible (refine hK _ _ ?_);clear hK K)|(with_reducible (refine hK _ ?_);clear hK K;intro wd hxd;have hS:=Sep.xx hxd)|(have hk:=hK;clear hk;simp (disch:=first|exact dis|fail) only [push_cast,↓reduceIte,zq1,zq2,zq3,zq4,zq5,fct])|((first|refine brO_n ?_ ?_|refine brQ_n ?_ ?_)<;>intro hb hc<;>first|(with_reducible exact False.elim hc)|(exfalso;omega)|(simp only [hb];clear hb))|(refine zcp 90 (put_spec _ _ (by omega) (by omega)) ?_;intro wb hS)|(refine G.drt mixed fun K hK wd hxd=>?_;have hS:=Sep.xx hxd)|with_reducible refine OT_leaf ?_|refine G.drg mixed fun K hK=>?_|(refine G.cn ?_ ?_<;>intro hc<;>first|(with_reducible exact False.elim hc)|(exfalso;omega)|skip)))<;>(try clear fct)
        all_goals first
        | ((have fct:=(And.intro @h3 @h0);(first|refine G.r1 ?_|refine G.r2 ?_|refine G.r3 ?_|refine G.r0 ?_|refine G.d0 ?_);(try simp (disch:=first|exact dis|fail) only [push_cast,↓reduceIte,zq1,zq2,zq3,zq4,zq5,fct]);(try clear fct));refine ⟨?_,Sep.xt (by assumption)⟩;rw [e,sizeF_yes k l (by omega) (by omega) (okM2_yes k l (by omega) (by first|assumption|(rw [←hc0];assumption)))])
        | (refine ih _ _ ⟨k+1,by omega,by omega,by simp only [push_cast,↓reduceIte,zq1,zq2,zq3,zq4,zq5,h3,h0]<;>rfl,by simp only [push_cast,↓reduceIte,zq1,zq2,zq3,zq4,zq5,h3,h0],by rw [e,sizeF_step k l (by omega) (by omega) (by first|exact okM2_no k l (by omega)|exact okM2_ne k l (by first|assumption|(rw [←hc0];assumption)))],hS⟩ ?_;(simp only [push_cast,↓reduceIte,zq1,zq2,zq3,zq4,zq5,toN_i,h3,h0]<;>omega))
      · clear hb3
        have hc0:=cand3 k l hk
        (have fct:=(And.intro @h3 (And.intro @h0 @hc0));repeat' (first|((with_reducible apply G.a);exact rfl)|refine G.reg fun K hK=>?_|(with_reducible (refine hK _ _ ?_);clear hK K)|(with_reducible (refine hK _ ?_);clear hK K;intro wd hxd;have hS:=Sep.xx hxd)|(have hk:=hK;clear hk;simp (disch:=first|exact dis|fail) only [push_cast,↓reduceIte,zq1,zq2,zq3,zq4,zq5,fct])|((first|refine brO_n ?_ ?_|refine brQ_n ?_ ?_)<;>intro hb hc<;>first|(with_reducible exact False.elim hc)|(exfalso;omega)|(simp only [hb];clear hb))|(refine zcp 90 (put_spec _ _ (by omega) (by omega)) ?_;intro wb hS)|(refine G.drt mixed fun K hK wd hxd=>?_;have hS:=Sep.xx hxd)|with_reducible refine OT_leaf ?_|refine G.drg mixed fun K hK=>?_|(refine G.cn ?_ ?_<;>intro hc<;>first|(with_reducible exact False.elim hc)|(exfalso;omega)|skip)))<;>(try clear fct)
        all_goals first
        | ((have fct:=(And.intro @h3 @h0);(first|refine G.r1 ?_|refine G.r2 ?_|refine G.r3 ?_|refine G.r0 ?_|refine G.d0 ?_);(try simp (disch:=first|exact dis|fail) only [push_cast,↓reduceIte,zq1,zq2,zq3,zq4,zq5,fct]);(try clear fct));refine ⟨?_,Sep.xt (by assumption)⟩;rw [e,sizeF_yes k l (by omega) (by omega) (okM2_yes k l (by omega) (by first|assumption|(rw [←hc0];assumption)))])
        | (refine ih _ _ ⟨k+1,by omega,by omega,by simp only [push_cast,↓reduceIte,zq1,zq2,zq3,zq4,zq5,h3,h0]<;>rfl,by simp only [push_cast,↓reduceIte,zq1,zq2,zq3,zq4,zq5,h3,h0],by rw [e,sizeF_step k l (by omega) (by omega) (by first|exact okM2_no k l (by omega)|exact okM2_ne k l (by first|assumption|(rw [←hc0];assumption)))],hS⟩ ?_;(simp only [push_cast,↓reduceIte,zq1,zq2,zq3,zq4,zq5,toN_i,h3,h0]<;>omega))
      · have hc0:=cand4 k l hk
        (have fct:=(And.intro @h3 (And.intro @h0 @hc0));repeat' (first|((with_reducible apply G.a);exact rfl)|refine G.reg fun K hK=>?_|(with_reducible (refine hK _ _ ?_);clear hK K)|(with_reducible (refine hK _ ?_);clear hK K;intro wd hxd;have hS:=Sep.xx hxd)|(have hk:=hK;clear hk;simp (disch:=first|exact dis|fail) only [push_cast,↓reduceIte,zq1,zq2,zq3,zq4,zq5,fct])|((first|refine brO_n ?_ ?_|refine brQ_n ?_ ?_)<;>intro hb hc<;>first|(with_reducible exact False.elim hc)|(exfalso;omega)|(simp only [hb];clear hb))|(refine zcp 90 (put_spec _ _ (by omega) (by omega)) ?_;intro wb hS)|(refine G.drt mixed fun K hK wd hxd=>?_;have hS:=Sep.xx hxd)|with_reducible refine OT_leaf ?_|refine G.drg mixed fun K hK=>?_|(refine G.cn ?_ ?_<;>intro hc<;>first|(with_reducible exact False.elim hc)|(exfalso;omega)|skip)))<;>(try clear fct)
        all_goals first
        | ((have fct:=(And.intro @h3 @h0);(first|refine G.r1 ?_|refine G.r2 ?_|refine G.r3 ?_|refine G.r0 ?_|refine G.d0 ?_);(try simp (disch:=first|exact dis|fail) only [push_cast,↓reduceIte,zq1,zq2,zq3,zq4,zq5,fct]);(try clear fct));refine ⟨?_,Sep.xt (by assumption)⟩;rw [e,sizeF_yes k l (by omega) (by omega) (okM2_yes k l (by omega) (by first|assumption|(rw [←hc0];assumption)))])
        | (refine ih _ _ ⟨k+1,by omega,by omega,by simp only [push_cast,↓reduceIte,zq1,zq2,zq3,zq4,zq5,h3,h0]<;>rfl,by simp only [push_cast,↓reduceIte,zq1,zq2,zq3,zq4,zq5,h3,h0],by rw [e,sizeF_step k l (by omega) (by omega) (by first|exact okM2_no k l (by omega)|exact okM2_ne k l (by first|assumption|(rw [←hc0];assumption)))],hS⟩ ?_;(simp only [push_cast,↓reduceIte,zq1,zq2,zq3,zq4,zq5,toN_i,h3,h0]<;>omega))
    · (have fct:=(And.intro @h3 @h0);repeat' (first|((with_reducible apply G.a);exact rfl)|refine G.reg fun K hK=>?_|(with_reducible (refine hK _ _ ?_);clear hK K)|(with_reducible (refine hK _ ?_);clear hK K;intro wd hxd;have hS:=Sep.xx hxd)|(have hk:=hK;clear hk;simp (disch:=first|exact dis|fail) only [push_cast,↓reduceIte,zq1,zq2,zq3,zq4,zq5,fct])|((first|refine brO_n ?_ ?_|refine brQ_n ?_ ?_)<;>intro hb hc<;>first|(with_reducible exact False.elim hc)|(exfalso;omega)|(simp only [hb];clear hb))|(refine zcp 90 (put_spec _ _ (by omega) (by omega)) ?_;intro wb hS)|(refine G.drt mixed fun K hK wd hxd=>?_;have hS:=Sep.xx hxd)|with_reducible refine OT_leaf ?_|refine G.drg mixed fun K hK=>?_|(refine G.cn ?_ ?_<;>intro hc<;>first|(with_reducible exact False.elim hc)|(exfalso;omega)|skip)))<;>(try clear fct)
      all_goals
        (have fct:=(And.intro @h3 @h0);(first|refine G.r1 ?_|refine G.r2 ?_|refine G.r3 ?_|refine G.r0 ?_|refine G.d0 ?_);(try simp (disch:=first|exact dis|fail) only [push_cast,↓reduceIte,zq1,zq2,zq3,zq4,zq5,fct]);(try clear fct))
        refine ⟨?_,Sep.xt (by assumption)⟩
        rw [e,sizeF_end k l (by omega)];rfl
end Go.Proofs.YtllanbmpacgigaaGreatDoor
namespace Go.Proofs.YtllanbmpacgigaaGreatDoor
open Nat renaming reduceAdd→zq1,reduceLeDiff→zq2,reduceEqDiff→zq3,reduceLT→zq4
open Int renaming reduceToNat→zq5
set_option linter.unusedSimpArgs false
set_option linter.unusedVariables false
attribute [local irreducible] SemK UnitK StK AlcK BslK CallK CallV Instr.box Builtin.append_ Instr.makeSlice Instr.makeMap Instr.lookup Instr.mapUpdate Instr.sliceAt convert
open Go.RowKit
def c55:MC:=(.seq (.reg [qm 2 0,qq 3 (.nck (.tmp 2)),qq 4 (.fad 0 (.tmp 3)),qq 5 (.ld none (.tmp 4)),qq 6 (.raw (.binOp .eql 64 (.tmp 5) (.const (.pointer none)) 64) 4)]) (.cond (.tmp 6) (.reg [qm 7 0,qm 8 0,qq 9 (.raw (.convert 64 132 (.tmp 8)) 132),qq 10 (.raw (.call ⟨(.value (.func 84)),#[(.tmp 9)],#[132]⟩) 132),qq 11 (.raw (.convert 132 64 (.tmp 10)) 64),qq 12 (.nck (.tmp 7)),qq 13 (.fad 0 (.tmp 12)),qn (.st 1 (.tmp 13) (.tmp 11))]) (.seq (.reg [qm 14 0,qq 15 (.nck (.tmp 14)),qq 16 (.fad 0 (.tmp 15)),qq 17 (.ld none (.tmp 16)),qm 18 0,qq 19 (.raw (.binOp .neq 64 (.tmp 17) (.tmp 18) 64) 4)]) (.cond (.tmp 19) .bad .skip))))
theorem k55:conv Tryz.prog 20 (Tryz.f55.body.getD .skip)=c55:=by kernel_rfl
theorem in55 {a0:Value} {w:World} {R:Value→World→Prop} (h:G Tryz.prog Tryz.f55 20 [.c c55] R (frL 0 [a0]) w):Ret Tryz.prog 55 #[a0] w R:=G.enter (args:=[a0]) Tryz.func55 (c:=Tryz.f55.body.getD .skip) (by kernel_rfl) (by kernel_rfl) (by simp) k55 h
theorem bchk_spec {g:Nat} {p bv:Value} {M:List Chk} {w w0:World} (hS:Sep w0 w (boxC g 67 [p,bv] :: M)) (hp:p=.pointer none∨p=.pointer (some ⟨g,0,none⟩)) :
    Ret Tryz.prog 55 #[.pointer (some ⟨g,0,none⟩)] w fun res w'=>res=.tuple #[]∧Sep w0 w' (boxC g 67 [.pointer (some ⟨g,0,none⟩),bv] :: M):=by
  refine in55 ?_
  rcases hp with rfl|rfl
  · repeat' (first|((with_reducible apply G.a);exact rfl)|refine G.reg fun K hK=>?_|(with_reducible (refine hK _ _ ?_);clear hK K)|(with_reducible (refine hK _ ?_);clear hK K;intro wd hxd;have hS:=Sep.ext (by assumption) hxd)|((first|have hk:=hK|have hk:=hK2);clear hk;simp (disch:=(first|exact dis|fail)) only [push_cast,↓reduceIte,zq1,zq2,zq3,zq4,zq5,O_noe])|((first|refine brO_mk ?_ ?_|refine brQ_mk ?_ ?_)<;>intro hb<;>(try simp only [Bool.not_eq_true',Bool.not_eq_false'] at hb)<;>have hc:=hb<;>(try simp only [hcs,reduceCtorEq] at hc)<;>(try (exfalso;omega))<;>simp only [hb]<;>clear hb)|(refine zalc ?_;intro gb wb hS)|(refine zbsl ?_;intro gb wb hS)|((with_reducible (show SemK _ (Instr.box _ _) _ _ _ _));refine zbox ?_;intro gb wb hS)|((with_reducible (show StK _ _ (Value.pointer _) _ _ _ _ _));refine zst ?_;intro wb hS;(try simp only [sets] at hS))|(refine zcv ?_)|(refine zn3 ?_)|(refine zn4 ?_)|(refine cv_to (hS.blk .h) rfl ?_)|(refine cv_from (hS.blk .h) rfl ?_)|(refine pureK ?_)|(refine G.drt mixed fun K hK wd hxd=>?_;have hS:=Sep.ext (by assumption) hxd)|with_reducible refine OT_leaf ?_|(with_reducible refine OT_tail fun K2 hK2=>?_)|(with_reducible (refine hK2 _ ?_);clear hK2 K2;intro wd hxd;have hS:=Sep.ext (by assumption) hxd)|with_reducible refine OT_br fun K2 hK2=>?_|(refine hK2 _ _ ?_ ?_<;>clear hK2 K2)|refine G.drg mixed fun K hK=>?_|(refine G.cond (by simp only [push_cast,↓reduceIte,zq1,zq2,zq3,zq4,zq5,O_noe];rfl) ?_ ?_<;>intro hc<;>(try simp only [hcs,reduceCtorEq] at hc)<;>(try (exfalso;omega))))
    all_goals exact G.done0 rfl ⟨rfl,hS⟩
  · repeat' (first|((with_reducible apply G.a);exact rfl)|refine G.reg fun K hK=>?_|(with_reducible (refine hK _ _ ?_);clear hK K)|(have hk:=hK;clear hk;simp (disch:=first|exact dis|fail) only [push_cast,↓reduceIte,zq1,zq2,zq3,zq4,zq5,fct])|((with_reducible refine gSt ?_);refine zs2 ?_;intro wb hS)|(refine zcv ?_)|(refine zn3 ?_)|(refine zn4 ?_)|(refine eqSelf_n dpt bld_has ?_)|(refine G.cn ?_ ?_<;>intro hc<;>first|(with_reducible exact False.elim hc)|(exfalso;omega)|skip))
    all_goals exact G.done0 rfl ⟨rfl,hS⟩
def c35:MC:=(.seq (.reg [qq 4 (.mv (.const .nilIface))]) (.seq (.reg [qm 5 0,qq 6 (.call 55 [(.tmp 5)])]) (.seq (.reg [qm 7 0,qm 8 0,qq 9 (.nck (.tmp 8)),qq 10 (.fad 1 (.tmp 9)),qq 11 (.ld none (.tmp 10)),qm 12 1,qq 13 (.bsl 5 [(.int .u8 0)] 1 [⟨0,⟨1,(.tmp 12)⟩⟩]),qq 14 (.raw (.call ⟨(.builtin .append),#[(.tmp 11),(.tmp 13)],#[65,65]⟩) 65),qq 15 (.nck (.tmp 7)),qq 16 (.fad 1 (.tmp 15)),qn (.st 1 (.tmp 16) (.tmp 14))]) (.seq (.reg [qq 4 (.mv (.const .nilIface))]) .ret))))
theorem k35:conv Tryz.prog 17 (Tryz.f35.body.getD .skip)=c35:=by kernel_rfl
theorem in35 {a0 a1:Value} {w:World} {R:Value→World→Prop} (h:G Tryz.prog Tryz.f35 17 [.c c35] R (frL 0 [a0,a1]) w):Ret Tryz.prog 35 #[a0,a1] w R:=G.enter (args:=[a0,a1]) Tryz.func35 (c:=Tryz.f35.body.getD .skip) (by kernel_rfl) (by kernel_rfl) (by simp) k35 h
def c34:MC:=(.seq (.reg [qq 4 (.mv (ki 0)),qq 5 (.mv (.const .nilIface))]) (.seq (.reg [qm 6 0,qq 7 (.call 55 [(.tmp 6)])]) (.seq (.reg [qm 8 0,qm 9 0,qq 10 (.nck (.tmp 9)),qq 11 (.fad 1 (.tmp 10)),qq 12 (.ld none (.tmp 11)),qm 13 1,qq 14 (.raw (.call ⟨(.builtin .append),#[(.tmp 12),(.tmp 13)],#[65,9]⟩) 65),qq 15 (.nck (.tmp 8)),qq 16 (.fad 1 (.tmp 15)),qn (.st 1 (.tmp 16) (.tmp 14))]) (.seq (.reg [qm 17 1,qq 18 (.lenS (.tmp 17)),qm 4 18,qq 5 (.mv (.const .nilIface))]) .ret))))
theorem k34:conv Tryz.prog 19 (Tryz.f34.body.getD .skip)=c34:=by kernel_rfl
theorem in34 {a0 a1:Value} {w:World} {R:Value→World→Prop} (h:G Tryz.prog Tryz.f34 19 [.c c34] R (frL 0 [a0,a1]) w):Ret Tryz.prog 34 #[a0,a1] w R:=G.enter (args:=[a0,a1]) Tryz.func34 (c:=Tryz.f34.body.getD .skip) (by kernel_rfl) (by kernel_rfl) (by simp) k34 h
theorem bwb_spec {g:Nat} {xs:Str} {L R:List Chk} {w w0:World} (c:UInt8) (hS:Sep w0 w L) (he:Ex (bldC g 67 5 xs) L R) (hl:xs.length≤1000000000000) :
    Ret Tryz.prog 35 #[.pointer (some ⟨g,0,none⟩),U c.toNat] w fun res w'=>res=.nilIface∧Sep w0 w' (bldC g 67 5 (xs++[c]) :: R):=by
  refine in35 ?_
  obtain ⟨p,bv,hp,hS⟩:=hS.openB he
  repeat' (first|((with_reducible apply G.a);exact rfl)|refine G.reg fun K hK=>?_|(with_reducible (refine hK _ _ ?_);clear hK K)|(have hk:=hK;clear hk;simp (disch:=first|exact dis|fail) only [push_cast,↓reduceIte,zq1,zq2,zq3,zq4,zq5,fct])|(refine zbsl ?_;intro gb wb hS)|((with_reducible refine gSt ?_);refine zs2 ?_;intro wb hS)|((refine zco 55 (bchk_spec hS hp) ?_);rintro vb wb ⟨rfl,hS⟩)|(refine zap (E:=eU) (y:=c) ?_;intro vb wb hS))
  (first|refine G.r1 ?_|refine G.r2 ?_|refine G.r3 ?_|refine G.r0 ?_|refine G.d0 ?_);(try simp (disch:=first|exact dis|fail) only [push_cast,↓reduceIte,zq1,zq2,zq3,zq4,zq5,fct])
  exact hS.shutB (.inr rfl)
theorem bws_spec {g:Nat} {xs s:Str} {L R:List Chk} {w w0:World} (hS:Sep w0 w L) (he:Ex (bldC g 67 5 xs) L R) (hl:xs.length≤1000000000000) (hl2:s.length≤1000000000000) :
    Ret Tryz.prog 34 #[.pointer (some ⟨g,0,none⟩),S s] w fun res w'=>res=.tuple #[I s.length,.nilIface]∧Sep w0 w' (bldC g 67 5 (xs++s) :: R):=by
  refine in34 ?_
  obtain ⟨p,bv,hp,hS⟩:=hS.openB he
  repeat' (first|((with_reducible apply G.a);exact rfl)|refine G.reg fun K hK=>?_|(with_reducible (refine hK _ _ ?_);clear hK K)|(have hk:=hK;clear hk;simp (disch:=first|exact dis|fail) only [push_cast,↓reduceIte,zq1,zq2,zq3,zq4,zq5,fct])|((with_reducible refine gSt ?_);refine zs2 ?_;intro wb hS)|((refine zco 55 (bchk_spec hS hp) ?_);rintro vb wb ⟨rfl,hS⟩)|(refine zas ?_ Tryz.underlying9;intro vb wb hS))
  (first|refine G.r1 ?_|refine G.r2 ?_|refine G.r3 ?_|refine G.r0 ?_|refine G.d0 ?_);(try simp (disch:=first|exact dis|fail) only [push_cast,↓reduceIte,zq1,zq2,zq3,zq4,zq5,fct])
  exact hS.shutB (.inr rfl)
def c36:MC:=(.seq (.reg [qq 2 (.mv (.const (S [])))]) (.seq (.drg [qm 3 0,qq 4 (.nck (.tmp 3)),qq 5 (.fad 1 (.tmp 4)),qq 6 (.ld none (.tmp 5)),qq 7 (.raw (.call ⟨(.builtin .unsafeSliceData),#[(.tmp 6)],#[65]⟩) 90),qm 8 0,qq 9 (.nck (.tmp 8)),qq 10 (.fad 1 (.tmp 9)),qq 11 (.ld none (.tmp 10)),qq 12 (.len (.tmp 11)),qq 13 (.raw (.call ⟨(.builtin .unsafeString),#[(.tmp 7),(.tmp 12)],#[90,3]⟩) 9),qm 2 13] (.some (.br [qm 3 0,qq 4 (.nck (.tmp 3)),qq 5 (.fad 1 (.tmp 4)),qm 8 0,qq 9 (.nck (.tmp 8)),qq 10 (.fad 1 (.tmp 9))] (.br [qq 6 (.ld none (.tmp 5))] (.leaf [qq 7 (.raw (.call ⟨(.builtin .unsafeSliceData),#[(.tmp 6)],#[65]⟩) 90),qq 11 (.ld none (.tmp 10)),qq 12 (.len (.tmp 11)),qq 13 (.raw (.call ⟨(.builtin .unsafeString),#[(.tmp 7),(.tmp 12)],#[90,3]⟩) 9),qm 2 13]) (.leaf [qq 11 (.ld none (.tmp 10)),qq 12 (.len (.tmp 11)),qq 7 (.raw (.call ⟨(.builtin .unsafeSliceData),#[(.tmp 6)],#[65]⟩) 90),qq 13 (.raw (.call ⟨(.builtin .unsafeString),#[(.tmp 7),(.tmp 12)],#[90,3]⟩) 9),qm 2 13])) (.leaf [qq 11 (.ld none (.tmp 10)),qq 12 (.len (.tmp 11)),qq 6 (.ld none (.tmp 5)),qq 7 (.raw (.call ⟨(.builtin .unsafeSliceData),#[(.tmp 6)],#[65]⟩) 90),qq 13 (.raw (.call ⟨(.builtin .unsafeString),#[(.tmp 7),(.tmp 12)],#[90,3]⟩) 9),qm 2 13])))) .ret))
theorem k36:conv Tryz.prog 14 (Tryz.f36.body.getD .skip)=c36:=by kernel_rfl
theorem in36 {a0:Value} {w:World} {R:Value→World→Prop} (h:G Tryz.prog Tryz.f36 14 [.c c36] R (frL 0 [a0]) w):Ret Tryz.prog 36 #[a0] w R:=G.enter (args:=[a0]) Tryz.func36 (c:=Tryz.f36.body.getD .skip) (by kernel_rfl) (by kernel_rfl) (by simp) k36 h
theorem bst_spec {g:Nat} {xs:Str} {L R:List Chk} {w w0:World} (hS:Sep w0 w L) (he:Ex (bldC g 67 5 xs) L R) :
    Ret Tryz.prog 36 #[.pointer (some ⟨g,0,none⟩)] w fun res w'=>res=S xs∧Sep w0 w' R:=by
  refine in36 ?_
  obtain ⟨p,bv,hp,hS⟩:=hS.openB he
  repeat' (first|((with_reducible apply G.a);exact rfl)|refine G.reg fun K hK=>?_|(with_reducible (refine hK _ _ ?_);clear hK K)|(with_reducible (refine hK _ ?_);clear hK K;intro wd hxd;have hS:=Sep.ext (by assumption) hxd)|((first|have hk:=hK|have hk:=hK2);clear hk;simp (disch:=(first|exact dis|fail)) only [push_cast,↓reduceIte,zq1,zq2,zq3,zq4,zq5,O_usd,O_ust])|((first|refine brO_mk ?_ ?_|refine brQ_mk ?_ ?_)<;>intro hb<;>(try simp only [Bool.not_eq_true',Bool.not_eq_false'] at hb)<;>have hc:=hb<;>(try simp only [hcs,reduceCtorEq] at hc)<;>(try (exfalso;omega))<;>simp only [hb]<;>clear hb)|(refine zalc ?_;intro gb wb hS)|(refine zbsl ?_;intro gb wb hS)|((with_reducible (show SemK _ (Instr.box _ _) _ _ _ _));refine zbox ?_;intro gb wb hS)|((with_reducible (show StK _ _ (Value.pointer _) _ _ _ _ _));refine zst ?_;intro wb hS;(try simp only [sets] at hS))|(refine zcv ?_)|(refine zusd ?_ (by assumption) (by repeat constructor) u8_ptr;intro q wb hS hq)|(refine zust ?_ (by assumption) (by repeat constructor) (by assumption) u8_ptr u8_cells;intro wb hS)|(refine G.drt mixed fun K hK wd hxd=>?_;have hS:=Sep.ext (by assumption) hxd)|with_reducible refine OT_leaf ?_|(with_reducible refine OT_tail fun K2 hK2=>?_)|(with_reducible (refine hK2 _ ?_);clear hK2 K2;intro wd hxd;have hS:=Sep.ext (by assumption) hxd)|with_reducible refine OT_br fun K2 hK2=>?_|(refine hK2 _ _ ?_ ?_<;>clear hK2 K2)|refine G.drg mixed fun K hK=>?_|(refine G.cond (by simp only [push_cast,↓reduceIte,zq1,zq2,zq3,zq4,zq5,O_usd,O_ust];rfl) ?_ ?_<;>intro hc<;>(try simp only [hcs,reduceCtorEq] at hc)<;>(try (exfalso;omega))))
  all_goals
    (first|refine G.r1 ?_|refine G.r2 ?_|refine G.r3 ?_|refine G.r0 ?_|refine G.d0 ?_);(try simp (disch:=first|exact dis|fail) only [push_cast,↓reduceIte,zq1,zq2,zq3,zq4,zq5,fct])
    exact Sep.drop hS .h
end Go.Proofs.YtllanbmpacgigaaGreatDoor
namespace Go.Proofs.YtllanbmpacgigaaGreatDoor
open Nat renaming reduceAdd→zq1,reduceLeDiff→zq2,reduceEqDiff→zq3,reduceLT→zq4
open Int renaming reduceToNat→zq5
set_option linter.unusedSimpArgs false
set_option linter.unusedVariables false
attribute [local irreducible] SemK UnitK StK AlcK BslK CallK CallV Instr.box Builtin.append_ Instr.makeSlice Instr.makeMap Instr.lookup Instr.mapUpdate Instr.sliceAt convert
open Go.RowKit
def c39l1:MC:=(.seq (.seq (.reg [qm 4 3,qm 5 0,qq 6 (.lenS (.tmp 5)),qq 7 (.bin .lss (.tmp 4) (.tmp 6)),qm 8 7,qmt 8 9 0,qmt 8 10 3,qt 8 11 (.slS (.tmp 9) (.some (.tmp 10)) none),qt 8 12 (.call 58 [(.tmp 11)]),qt 8 13 (.bin .gtr (.tmp 12) (ki 0)),qq 14 (.pick (.tmp 8) (.tmp 13) (kb false))]) (.cond (.tmp 14) .skip (.exit 0))) (.blk 1 (.reg [qm 15 3,qm 16 0,qm 17 3,qq 18 (.slS (.tmp 16) (.some (.tmp 17)) none),qq 19 (.call 58 [(.tmp 18)]),qq 20 (.bin .add (.tmp 15) (.tmp 19)),qm 3 20])))
def c39:MC:=(.seq (.reg [qq 2 (.mv (ki 0))]) (.seq (.reg [qq 3 (.mv (ki 0))]) (.seq (.blk 0 (.loop c39l1)) (.seq (.reg [qm 21 3,qm 2 21]) .ret))))
theorem k39:conv Tryz.prog 22 (Tryz.f39.body.getD .skip)=c39:=by kernel_rfl
theorem in39 {a0:Value} {w:World} {R:Value→World→Prop} (h:G Tryz.prog Tryz.f39 22 [.c c39] R (frL 0 [a0]) w):Ret Tryz.prog 39 #[a0] w R:=G.enter (args:=[a0]) Tryz.func39 (c:=Tryz.f39.body.getD .skip) (by kernel_rfl) (by kernel_rfl) (by simp) k39 h
theorem whole_spec (s:List UInt8) (w:World) (hl:s.length≤100000000000):Pu Tryz.prog 39 #[S s] w (I (wholeM s)):=by
  refine in39 ?_
  repeat' (first|refine G.seq ?_|refine G.blk ?_|refine G.endb ?_|refine G.skip ?_|refine G.exit rfl ?_|(refine G.reg fun K hK=>?_;simp (disch:=first|omega|(simp only [List.length_cons,List.length_nil,List.length_append];omega)) only [push_cast,↓reduceIte,zq1,zq2,zq3];(repeat' ((first|refine brO_mk ?_ ?_|refine brQ_mk ?_ ?_)<;>intro hb<;>(try simp only [Bool.not_eq_true',Bool.not_eq_false'] at hb)<;>have hc:=hb<;>(try simp only [hcs,reduceCtorEq] at hc)<;>(try (exfalso;omega))<;>simp (disch:=first|omega|(simp only [List.length_cons,List.length_nil,List.length_append];omega)) only [push_cast,↓reduceIte,zq1,zq2,zq3,hb]<;>clear hb));all_goals (refine hK _ _ ?_;clear hK K))|(refine G.cond (by simp only [push_cast,↓reduceIte,zq1,zq2,zq3];rfl) ?_ ?_<;>intro hc<;>(try simp only [hcs,reduceCtorEq] at hc)<;>(try (exfalso;omega))))
  refine G.loop (fun r w'=>∃ k:Nat,k≤s.length∧r 3=I k∧r 0=S s∧wholeM s=k+wholeM (s.drop k)∧Ext w w') (fun r _=>s.length - toN (r 3)) ?_ ?_
  · exact ⟨0,by omega,by simp only [push_cast,↓reduceIte,zq1,zq2,zq3]<;>rfl,by simp only [push_cast,↓reduceIte,zq1,zq2,zq3],by simp,Ext.refl _⟩
  rintro u w' ⟨k,hk,h3,h0,e,hx⟩ ih
  have hd:(s.drop k).length≤1000000000000:=by simp only [List.length_drop];omega
  have hle:=sizeM_le (s.drop k)
  simp only [List.length_drop] at hle
  repeat' (first|refine G.seq ?_|refine G.blk ?_|refine G.endb ?_|refine G.skip ?_|refine G.exit rfl ?_|(refine G.reg fun K hK=>?_;simp (disch:=first|omega|(simp only [List.length_cons,List.length_nil,List.length_append];omega)) only [push_cast,↓reduceIte,zq1,zq2,zq3,h3,h0];(repeat' ((first|refine brO_mk ?_ ?_|refine brQ_mk ?_ ?_)<;>intro hb<;>(try simp only [Bool.not_eq_true',Bool.not_eq_false'] at hb)<;>have hc:=hb<;>(try simp only [hcs,reduceCtorEq] at hc)<;>(try (exfalso;omega))<;>simp (disch:=first|omega|(simp only [List.length_cons,List.length_nil,List.length_append];omega)) only [push_cast,↓reduceIte,zq1,zq2,zq3,hb,h3,h0]<;>clear hb));all_goals (refine hK _ _ ?_;clear hK K))|(refine G.reg fun K hK=>?_;simp (disch:=first|omega|(simp only [List.length_cons,List.length_nil,List.length_append];omega)) only [push_cast,↓reduceIte,zq1,zq2,zq3,h3,h0];(repeat' (first|((first|refine brO_mk ?_ ?_|refine brQ_mk ?_ ?_)<;>intro hb<;>(try simp only [Bool.not_eq_true',Bool.not_eq_false'] at hb)<;>have hc:=hb<;>(try simp only [hcs,reduceCtorEq] at hc)<;>(try (exfalso;omega))<;>simp (disch:=first|omega|(simp only [List.length_cons,List.length_nil,List.length_append];omega)) only [push_cast,↓reduceIte,zq1,zq2,zq3,hb,h3,h0]<;>clear hb)|(refine CallK.pu (by with_reducible first|exact size_spec _ _ hd) ?_;intro w1 hx1;simp (disch:=first|omega|(simp only [List.length_cons,List.length_nil,List.length_append];omega)) only [push_cast,↓reduceIte,zq1,zq2,zq3,h3,h0])));all_goals (refine hK _ _ ?_;clear hK K))|(refine G.cond (by simp only [push_cast,↓reduceIte,zq1,zq2,zq3];rfl) ?_ ?_<;>intro hc<;>(try simp only [hcs,reduceCtorEq] at hc)<;>(try (exfalso;omega))))
  · refine ih _ _ ⟨k+sizeM (s.drop k),by omega,by simp only [push_cast,↓reduceIte,zq1,zq2,zq3]<;>simp,by simp only [push_cast,↓reduceIte,zq1,zq2,zq3,h0],?_,(by repeat (first|with_reducible exact Ext.refl _|with_reducible assumption|with_reducible refine Ext.alloc ?_ _|with_reducible refine Ext.drew ?_|refine Ext.trans ?_ (by assumption)))⟩ ?_
    · rw [e,wholeM_yes (s.drop k) (by intro h;have:=congrArg List.length h;simp only [List.length_drop,List.length_nil] at this;omega) (by omega),List.drop_drop];omega
    · simp only [push_cast,↓reduceIte,zq1,zq2,zq3,h3,toN_i];omega
  · (refine G.ret1 rfl ?_;simp only [push_cast,↓reduceIte,zq1,zq2,zq3,h3])
    refine ⟨?_,(by repeat (first|with_reducible exact Ext.refl _|with_reducible assumption|with_reducible refine Ext.alloc ?_ _|with_reducible refine Ext.drew ?_|refine Ext.trans ?_ (by assumption)))⟩
    rw [e,wholeM_no (s.drop k) (by omega)];simp
  · (refine G.ret1 rfl ?_;simp only [push_cast,↓reduceIte,zq1,zq2,zq3,h3])
    refine ⟨?_,(by repeat (first|with_reducible exact Ext.refl _|with_reducible assumption|with_reducible refine Ext.alloc ?_ _|with_reducible refine Ext.drew ?_|refine Ext.trans ?_ (by assumption)))⟩
    rw [e,wholeM_no (s.drop k) (fun h=>h.1 (List.drop_eq_nil_of_le (by omega)))];simp
end Go.Proofs.YtllanbmpacgigaaGreatDoor
namespace Go.Proofs.YtllanbmpacgigaaGreatDoor
open Nat renaming reduceAdd→zq1,reduceLeDiff→zq2,reduceEqDiff→zq3,reduceLT→zq4
open Int renaming reduceToNat→zq5
set_option linter.unusedSimpArgs false
set_option linter.unusedVariables false
attribute [local irreducible] SemK UnitK StK AlcK BslK CallK CallV Instr.box Builtin.append_ Instr.makeSlice Instr.makeMap Instr.lookup Instr.mapUpdate Instr.sliceAt convert
open Go.RowKit
def c157:MC:=(.seq (.reg [qq 4 (.mv (kb false))]) (.seq (.reg [qm 5 0,qq 6 (.lenS (.tmp 5)),qm 7 1,qq 8 (.lenS (.tmp 7)),qq 9 (.bin .geq (.tmp 6) (.tmp 8)),qm 10 9,qmt 10 11 0,qmt 10 12 1,qt 10 13 (.lenS (.tmp 12)),qt 10 14 (.slS (.tmp 11) none (.some (.tmp 13))),qmt 10 15 1,qt 10 16 (.bin .eql (.tmp 14) (.tmp 15)),qq 17 (.pick (.tmp 10) (.tmp 16) (kb false)),qm 4 17]) .ret))
theorem k157:conv Tryz.prog 18 (Tryz.f157.body.getD .skip)=c157:=by kernel_rfl
theorem in157 {a0 a1:Value} {w:World} {R:Value→World→Prop} (h:G Tryz.prog Tryz.f157 18 [.c c157] R (frL 0 [a0,a1]) w):Ret Tryz.prog 157 #[a0,a1] w R:=G.enter (args:=[a0,a1]) Tryz.func157 (c:=Tryz.f157.body.getD .skip) (by kernel_rfl) (by kernel_rfl) (by simp) k157 h
theorem hp_spec (s p:Str) (w:World) (hl:s.length≤1000000000) (hp:p.length≤1000000000):Pu Tryz.prog 157 #[S s,S p] w (.bool (s.take p.length == p)):=by
  refine in157 ?_
  have hS:=Sep.start w
  by_cases h:(p.length:Int)≤s.length
  · (have fct:=@h;repeat' (first|((with_reducible apply G.a);exact rfl)|refine G.reg fun K hK=>?_|(with_reducible (refine hK _ _ ?_);clear hK K)|(have hk:=hK;clear hk;simp (disch:=first|exact dis|fail) only [push_cast,↓reduceIte,zq1,zq2,zq3,zq4,zq5,fct])|(refine brO_n ?_ ?_<;>intro hb hc<;>first|(with_reducible exact False.elim hc)|(exfalso;omega)|(simp only [hb];clear hb))))<;>(try clear fct)
    all_goals
      (have fct:=@h;(first|refine G.r1 ?_|refine G.r2 ?_|refine G.r3 ?_|refine G.r0 ?_|refine G.d0 ?_);(try simp (disch:=first|exact dis|fail) only [push_cast,↓reduceIte,zq1,zq2,zq3,zq4,zq5,fct]);(try clear fct))
      (first|exact Sep.xt (by assumption)|exact ⟨rfl,Sep.xt (by assumption)⟩)
  · have hne:(s.take p.length == p)=false:=by
      rw [beq_eq_false_iff_ne]
      intro e
      have:=congrArg List.length e
      simp at this;omega
    (have fct:=@h;repeat' (first|((with_reducible apply G.a);exact rfl)|refine G.reg fun K hK=>?_|(with_reducible (refine hK _ _ ?_);clear hK K)|(have hk:=hK;clear hk;simp (disch:=first|exact dis|fail) only [push_cast,↓reduceIte,zq1,zq2,zq3,zq4,zq5,fct])|(refine brO_n ?_ ?_<;>intro hb hc<;>first|(with_reducible exact False.elim hc)|(exfalso;omega)|(simp only [hb];clear hb))))<;>(try clear fct)
    all_goals
      (have fct:=@h;(first|refine G.r1 ?_|refine G.r2 ?_|refine G.r3 ?_|refine G.r0 ?_|refine G.d0 ?_);(try simp (disch:=first|exact dis|fail) only [push_cast,↓reduceIte,zq1,zq2,zq3,zq4,zq5,fct]);(try clear fct))
      rw [hne]
      (first|exact Sep.xt (by assumption)|exact ⟨rfl,Sep.xt (by assumption)⟩)
def c116:MC:=(.seq (.reg [qq 4 (.mv (kb false))]) (.seq (.reg [qm 5 0,qm 6 1,qq 7 (.call 157 [(.tmp 5),(.tmp 6)]),qm 4 7]) .ret))
theorem k116:conv Tryz.prog 8 (Tryz.f116.body.getD .skip)=c116:=by kernel_rfl
theorem in116 {a0 a1:Value} {w:World} {R:Value→World→Prop} (h:G Tryz.prog Tryz.f116 8 [.c c116] R (frL 0 [a0,a1]) w):Ret Tryz.prog 116 #[a0,a1] w R:=G.enter (args:=[a0,a1]) Tryz.func116 (c:=Tryz.f116.body.getD .skip) (by kernel_rfl) (by kernel_rfl) (by simp) k116 h
theorem shp_spec (s p:Str) (w:World) (hl:s.length≤1000000000) (hp:p.length≤1000000000):Pu Tryz.prog 116 #[S s,S p] w (.bool (s.take p.length == p)):=by
  refine in116 ?_
  have hS:=Sep.start w
  repeat' (first|((with_reducible apply G.a);exact rfl)|refine G.reg fun K hK=>?_|(with_reducible (refine hK _ _ ?_);clear hK K)|(have hk:=hK;clear hk;simp (disch:=first|exact dis|fail) only [push_cast,↓reduceIte,zq1,zq2,zq3,zq4,zq5,fct])|(refine zcp 157 (hp_spec s p _ hl hp) ?_;intro wb hS))
  (first|refine G.r1 ?_|refine G.r2 ?_|refine G.r3 ?_|refine G.r0 ?_|refine G.d0 ?_);(try simp (disch:=first|exact dis|fail) only [push_cast,↓reduceIte,zq1,zq2,zq3,zq4,zq5,fct])
  exact Sep.xt (by assumption)
def c167:MC:=(.seq (.reg [qq 4 (.mv (.const (S []))),qq 5 (.mv (kb false))]) (.seq (.seq (.reg [qm 6 0,qm 7 1,qq 8 (.call 157 [(.tmp 6),(.tmp 7)]),qq 9 (.un .not (.tmp 8))]) (.cond (.tmp 9) (.seq (.reg [qm 10 0,qm 4 10,qq 5 (.mv (kb false))]) .ret) .skip)) (.seq (.reg [qm 11 0,qm 12 1,qq 13 (.lenS (.tmp 12)),qq 14 (.slS (.tmp 11) (.some (.tmp 13)) none),qm 4 14,qq 5 (.mv (kb true))]) .ret)))
theorem k167:conv Tryz.prog 15 (Tryz.f167.body.getD .skip)=c167:=by kernel_rfl
theorem in167 {a0 a1:Value} {w:World} {R:Value→World→Prop} (h:G Tryz.prog Tryz.f167 15 [.c c167] R (frL 0 [a0,a1]) w):Ret Tryz.prog 167 #[a0,a1] w R:=G.enter (args:=[a0,a1]) Tryz.func167 (c:=Tryz.f167.body.getD .skip) (by kernel_rfl) (by kernel_rfl) (by simp) k167 h
theorem cutp0_spec (s p:Str) (w:World) (hl:s.length≤1000000000) (hp:p.length≤1000000000):Pu Tryz.prog 167 #[S s,S p] w (.tuple #[S (if (s.take p.length == p)=true then s.drop p.length else s),.bool (s.take p.length == p)]):=by
  refine in167 ?_
  have hS:=Sep.start w
  cases h:(s.take p.length == p)
  · rw [if_neg (by simp)]
    (have fct:=@h;repeat' (first|((with_reducible apply G.a);exact rfl)|refine G.reg fun K hK=>?_|(with_reducible (refine hK _ _ ?_);clear hK K)|(have hk:=hK;clear hk;simp (disch:=first|exact dis|fail) only [push_cast,↓reduceIte,zq1,zq2,zq3,zq4,zq5,fct])|(refine zcp 157 (hp_spec s p _ hl hp) ?_;intro wb hS)|(refine G.cn ?_ ?_<;>intro hc<;>first|(with_reducible exact False.elim hc)|(exfalso;omega)|skip)))<;>(try clear fct)
    all_goals
      (have fct:=@h;(first|refine G.r1 ?_|refine G.r2 ?_|refine G.r3 ?_|refine G.r0 ?_|refine G.d0 ?_);(try simp (disch:=first|exact dis|fail) only [push_cast,↓reduceIte,zq1,zq2,zq3,zq4,zq5,fct]);(try clear fct))
      (first|exact Sep.xt (by assumption)|exact ⟨rfl,Sep.xt (by assumption)⟩)
  · rw [if_pos rfl]
    have hlen:(p.length:Int)≤s.length:=by
      have e:s.take p.length=p:=by simpa using h
      have:=congrArg List.length e
      simp at this;omega
    (have fct:=@h;repeat' (first|((with_reducible apply G.a);exact rfl)|refine G.reg fun K hK=>?_|(with_reducible (refine hK _ _ ?_);clear hK K)|(have hk:=hK;clear hk;simp (disch:=first|exact dis|fail) only [push_cast,↓reduceIte,zq1,zq2,zq3,zq4,zq5,fct])|(refine zcp 157 (hp_spec s p _ hl hp) ?_;intro wb hS)|(refine G.cn ?_ ?_<;>intro hc<;>first|(with_reducible exact False.elim hc)|(exfalso;omega)|skip)))<;>(try clear fct)
    all_goals
      (have fct:=@h;(first|refine G.r1 ?_|refine G.r2 ?_|refine G.r3 ?_|refine G.r0 ?_|refine G.d0 ?_);(try simp (disch:=first|exact dis|fail) only [push_cast,↓reduceIte,zq1,zq2,zq3,zq4,zq5,fct]);(try clear fct))
      (first|exact Sep.xt (by assumption)|exact ⟨rfl,Sep.xt (by assumption)⟩)
def cf128:MC:=(.seq (.reg [qq 4 (.mv (.const (S []))),qq 5 (.mv (kb false))]) (.seq (.reg [qm 6 0,qm 7 1,qq 8 (.call 167 [(.tmp 6),(.tmp 7)]),qq 9 (.ext 0 (.tmp 8)),qq 10 (.ext 1 (.tmp 8)),qm 4 9,qm 5 10]) .ret))
theorem k128:conv Tryz.prog 11 (Tryz.f128.body.getD .skip)=cf128:=by kernel_rfl
theorem in128 {a0 a1:Value} {w:World} {R:Value→World→Prop} (h:G Tryz.prog Tryz.f128 11 [.c cf128] R (frL 0 [a0,a1]) w):Ret Tryz.prog 128 #[a0,a1] w R:=G.enter (args:=[a0,a1]) Tryz.func128 (c:=Tryz.f128.body.getD .skip) (by kernel_rfl) (by kernel_rfl) (by simp) k128 h
theorem cutp_spec (s p:Str) (w:World) (hl:s.length≤1000000000) (hp:p.length≤1000000000):Pu Tryz.prog 128 #[S s,S p] w (.tuple #[S (if (s.take p.length == p)=true then s.drop p.length else s),.bool (s.take p.length == p)]):=by
  refine in128 ?_
  have hS:=Sep.start w
  repeat' (first|((with_reducible apply G.a);exact rfl)|refine G.reg fun K hK=>?_|(with_reducible (refine hK _ _ ?_);clear hK K)|(have hk:=hK;clear hk;simp (disch:=first|exact dis|fail) only [push_cast,↓reduceIte,zq1,zq2,zq3,zq4,zq5,fct])|(refine zcp 167 (cutp0_spec s p _ hl hp) ?_;intro wb hS))
  (first|refine G.r1 ?_|refine G.r2 ?_|refine G.r3 ?_|refine G.r0 ?_|refine G.d0 ?_);(try simp (disch:=first|exact dis|fail) only [push_cast,↓reduceIte,zq1,zq2,zq3,zq4,zq5,fct])
  (first|exact Sep.xt (by assumption)|exact ⟨rfl,Sep.xt (by assumption)⟩)
end Go.Proofs.YtllanbmpacgigaaGreatDoor
