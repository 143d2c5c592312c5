/- Texts of the proof, joined. -/
import Derived.Test.YtllanbmpacgigaaGreatDoorDW10
namespace Go.Proofs.YtllanbmpacgigaaGreatDoor
open Nat renaming reduceAdd→zq1,reduceLeDiff→zq2,reduceEqDiff→zq3,reduceLT→zq4
open Int renaming reduceToNat→zq5
set_option linter.unusedSimpArgs false
set_option linter.unusedVariables false
attribute [local irreducible] SemK UnitK StK AlcK BslK CallK CallV Instr.box Builtin.append_ Instr.makeSlice Instr.makeMap Instr.lookup Instr.mapUpdate Instr.sliceAt convert
open Go.RowKit
section
variable {w:World} {v:Value} {r:List Str}
theorem hasB_step0 (f:Str) (c:UInt8) (k:Nat) (hk:(k:Int) < f.length):hasB (f.drop k) c=(f.getD k 0 == c || hasB (f.drop (k+1)) c):=hasB_step f c k hk
def c91l1:MC:=(.seq (.seq (.reg [qm 6 5,qm 7 0,qq 8 (.lenS (.tmp 7)),qq 9 (.bin .lss (.tmp 6) (.tmp 8))]) (.cond (.tmp 9) .skip (.exit 0))) (.seq (.blk 1 (.seq (.reg [qm 12 0,qm 13 5,qq 14 (.idxS (.tmp 12) (.tmp 13)),qq 15 (.cvi .i64 (.tmp 14)),qm 16 1,qq 17 (.bin .eql (.tmp 15) (.tmp 16))]) (.cond (.tmp 17) (.seq (.reg [qq 4 (.mv (kb true))]) .ret) .skip))) (.reg [qm 10 5,qq 11 (.bin .add (.tmp 10) (ki 1)),qm 5 11])))
def c91:MC:=(.seq (.reg [qq 4 (.mv (kb false))]) (.seq (.seq (.reg [qq 5 (.mv (ki 0))]) (.blk 0 (.loop c91l1))) (.seq (.reg [qq 4 (.mv (kb false))]) .ret)))
theorem k91:conv Tryz.prog 18 (Tryz.f91.body.getD .skip)=c91:=by kernel_rfl
theorem in91 {a0 a1:Value} {w:World} {R:Value→World→Prop} (h:G Tryz.prog Tryz.f91 18 [.c c91] R (frL 0 [a0,a1]) w):Ret Tryz.prog 91 #[a0,a1] w R:=G.enter (args:=[a0,a1]) Tryz.func91 (c:=Tryz.f91.body.getD .skip) (by kernel_rfl) (by kernel_rfl) (by simp) k91 h
theorem has8_spec (f:Str) (c:UInt8) (n:Int) (hn:(c.toNat:Int)=n) (w:World) (hl:f.length≤9223372036854775000):Pu Tryz.prog 91 #[S f,I n] w (.bool (hasB f c)):=by
  refine in91 ?_
  have hS:=Sep.start w
  repeat' (first|((with_reducible apply G.a);exact rfl)|refine G.reg fun K hK=>?_|(with_reducible (refine hK _ _ ?_);clear hK K)|(have hk:=hK;clear hk;simp (disch:=first|exact dis|fail) only [push_cast,↓reduceIte,zq1,zq2,zq3,zq4,zq5,fct])|(refine G.cn ?_ ?_<;>intro hc<;>first|(with_reducible exact False.elim hc)|(exfalso;omega)|skip))
  refine G.loop (fun x w'=>∃ (k:Nat),k≤f.length∧x 0=S f∧x 1=I n∧x 5=I k∧hasB (f.drop k) c=hasB f c∧Sep w w' []) (fun x _=>f.length - toN (x 5)) ?_ ?_
  · exact ⟨0,Nat.zero_le _,by exact sf,by exact sf,by exact sf,rfl,hS⟩
  · clear hS
    rintro u wl ⟨k,hk,q0,q1,q5,he,hS⟩ ih
    have hm:toN (u 5)=k:=by rw [q5];simp [toN]
    by_cases hkk:(k:Int) < f.length
    · have hst:=hasB_step0 f c k hkk
      have hcb:=(f.getD k 0).toNat_lt
      rw [he] at hst
      by_cases hc0:((f.getD k 0).toNat:Int)=n
      · have hfc:f.getD k 0=c:=UInt8.toNat_inj.1 (by omega)
        rw [hfc,beq_self_eq_true,Bool.true_or] at hst
        (have fct:=(And.intro @q0 (And.intro @q1 @q5));repeat' (first|((with_reducible apply G.a);exact rfl)|refine G.reg fun K hK=>?_|(with_reducible (refine hK _ _ ?_);clear hK K)|(have hk:=hK;clear hk;simp (disch:=first|exact dis|fail) only [push_cast,↓reduceIte,zq1,zq2,zq3,zq4,zq5,fct])|(refine G.cn ?_ ?_<;>intro hc<;>first|(with_reducible exact False.elim hc)|(exfalso;omega)|skip)))<;>(try clear fct)
        all_goals
          (have fct:=(And.intro @q0 (And.intro @q1 @q5));(first|refine G.r1 ?_|refine G.r2 ?_|refine G.r3 ?_|refine G.r0 ?_|refine G.d0 ?_);(try simp (disch:=first|exact dis|fail) only [push_cast,↓reduceIte,zq1,zq2,zq3,zq4,zq5,fct]);(try clear fct))
          exact ⟨by rw [hst],Sep.xt (by assumption)⟩
      · have hfc:(f.getD k 0 == c)=false:=beq_eq_false_iff_ne.2 (fun e=>hc0 (by rw [e];exact hn))
        rw [hfc,Bool.false_or] at hst
        (have fct:=(And.intro @q0 (And.intro @q1 @q5));repeat' (first|((with_reducible apply G.a);exact rfl)|refine G.reg fun K hK=>?_|(with_reducible (refine hK _ _ ?_);clear hK K)|(have hk:=hK;clear hk;simp (disch:=first|exact dis|fail) only [push_cast,↓reduceIte,zq1,zq2,zq3,zq4,zq5,fct])|(refine G.cn ?_ ?_<;>intro hc<;>first|(with_reducible exact False.elim hc)|(exfalso;omega)|skip)))<;>(try clear fct)
        all_goals
          have fct:=(And.intro @q0 (And.intro @q1 @q5));refine ih _ _ ⟨k+1,by omega,by exact sf,by exact sf,by exact sf,hst.symm,(Sep.sub hS (by repeat first|exact Sub.rfl'|exact Sub.n|(refine Sub.c (by repeat constructor) ?_)|refine Sub.skip ?_))⟩ ?_
          rw [hm];simp only [push_cast,↓reduceIte,zq1,zq2,zq3,zq4,zq5,toN_i,q0,q1,q5];omega
    · rw [List.drop_eq_nil_of_le (by omega)] at he
      have he:hasB f c=false:=he.symm
      (have fct:=(And.intro @q0 (And.intro @q1 @q5));repeat' (first|((with_reducible apply G.a);exact rfl)|refine G.reg fun K hK=>?_|(with_reducible (refine hK _ _ ?_);clear hK K)|(have hk:=hK;clear hk;simp (disch:=first|exact dis|fail) only [push_cast,↓reduceIte,zq1,zq2,zq3,zq4,zq5,fct])|(refine G.cn ?_ ?_<;>intro hc<;>first|(with_reducible exact False.elim hc)|(exfalso;omega)|skip)))<;>(try clear fct)
      all_goals
        (have fct:=(And.intro @q0 (And.intro @q1 @q5));(first|refine G.r1 ?_|refine G.r2 ?_|refine G.r3 ?_|refine G.r0 ?_|refine G.d0 ?_);(try simp (disch:=first|exact dis|fail) only [push_cast,↓reduceIte,zq1,zq2,zq3,zq4,zq5,fct]);(try clear fct))
        exact ⟨by rw [he],Sep.xt (by assumption)⟩
theorem oneI_b (b:Bool):(oneI b == 1)=b:=by cases b<;>rfl
def c59:MC:=(.seq (.reg [qq 4 (.raw (.box 44 (.tmp 0)) 0),qq 8 (.mv (ki 0))]) (.seq (.seq (.reg [qm 9 1,qq 10 (.fad 0 (.tmp 4)),qq 11 (.ld none (.tmp 10)),qq 12 (.call 91 [(.tmp 9),(.tmp 11)])]) (.cond (.tmp 12) (.seq (.reg [qq 8 (.mv (ki 1))]) .ret) .skip)) (.seq (.seq (.reg [qm 13 1,qq 14 (.fad 1 (.tmp 4)),qq 15 (.ld none (.tmp 14)),qq 16 (.call 91 [(.tmp 13),(.tmp 15)])]) (.cond (.tmp 16) (.seq (.reg [qq 8 (.mv (ki 2))]) .ret) .skip)) (.seq (.seq (.reg [qm 17 1,qq 18 (.call 91 [(.tmp 17),(ki 13)]),qm 19 18,qmf 19 20 1,qf 19 21 (.call 91 [(.tmp 20),(ki 10)]),qq 22 (.pick (.tmp 19) (kb true) (.tmp 21))]) (.cond (.tmp 22) (.seq (.reg [qq 8 (.mv (ki 3))]) .ret) .skip)) (.seq (.seq (.reg [qm 23 1,qq 24 (.lenS (.tmp 23)),qq 25 (.bin .eql (.tmp 24) (ki 0)),qm 26 25,qmt 26 27 2,qt 26 28 (.bin .eql (.tmp 27) (ki 1)),qq 29 (.pick (.tmp 26) (.tmp 28) (kb false))]) (.cond (.tmp 29) (.seq (.reg [qq 8 (.mv (ki 4))]) .ret) .skip)) (.seq (.seq (.reg [qm 30 3,qq 31 (.bin .eql (.tmp 30) (ki 1)),qm 32 31,qmt 32 33 1,qt 32 34 (.call 92 [(.tmp 33),(ki 3)]),qq 35 (.pick (.tmp 32) (.tmp 34) (kb false))]) (.cond (.tmp 35) (.seq (.reg [qq 8 (.mv (ki 5))]) .ret) .skip)) (.seq (.reg [qq 8 (.mv (ki 0))]) .ret)))))))
theorem k59:conv Tryz.prog 36 (Tryz.f59.body.getD .skip)=c59:=by kernel_rfl
theorem in59 {a0 a1 a2 a3:Value} {w:World} {R:Value→World→Prop} (h:G Tryz.prog Tryz.f59 36 [.c c59] R (frL 0 [a0,a1,a2,a3]) w):Ret Tryz.prog 59 #[a0,a1,a2,a3] w R:=G.enter (args:=[a0,a1,a2,a3]) Tryz.func59 (c:=Tryz.f59.body.getD .skip) (by kernel_rfl) (by kernel_rfl) (by simp) k59 h
set_option maxHeartbeats 1000000 in
set_option maxRecDepth 8000 in
theorem rwhy_spec (d:Dl) (hd:byD d) (f:Str) (a b:Bool) (w:World) (hl:f.length≤1000000000):Pu Tryz.prog 59 #[(.agg #[I d.dl,I d.q,I d.e]),S f,I (oneI a),I (oneI b)] w (I (whyM d f a b)):=by
  refine in59 ?_
  have hS:=Sep.start w
  obtain ⟨d0,d1,d2,d3⟩:=hd
  have ha:=oneI_b a
  have hb:=oneI_b b
  (have fct:=(And.intro @ha @hb);repeat' (first|((with_reducible apply G.a);exact rfl)|refine G.reg fun K hK=>?_|(with_reducible (refine hK _ _ ?_);clear hK K)|(have hk:=hK;clear hk;simp (disch:=first|exact dis|fail) only [push_cast,↓reduceIte,zq1,zq2,zq3,zq4,zq5,fct])|(refine brO_n ?_ ?_<;>intro hb hc<;>first|(with_reducible exact False.elim hc)|(exfalso;omega)|(simp only [hb];clear hb))|(((with_reducible refine gBox ?_);refine zbox ?_);intro gb wb hS)|((with_reducible (show CallK _ 91 [_,I d.dl] _ _ _ _));refine zcp 91 (has8_spec f (bD d) _ (byte_of ⟨d0,d1⟩) _ (by omega)) ?_;intro wb hS)|((with_reducible (show CallK _ 91 [_,I d.q] _ _ _ _));refine zcp 91 (has8_spec f (bQ d) _ (byte_of ⟨d2,d3⟩) _ (by omega)) ?_;intro wb hS)|((with_reducible (show CallK _ 91 [_,I 13] _ _ _ _));refine zcp 91 (has8_spec f 13 _ (by decide) _ (by omega)) ?_;intro wb hS)|((with_reducible (show CallK _ 91 [_,I 10] _ _ _ _));refine zcp 91 (has8_spec f 10 _ (by decide) _ (by omega)) ?_;intro wb hS)|(refine zcp 92 (has3_spec f _ hl) ?_;intro wb hS)|(refine G.cn ?_ ?_<;>intro hc<;>first|(with_reducible exact False.elim hc)|(exfalso;omega)|skip)))<;>(try clear fct)
  all_goals
    (first|refine G.r1 ?_|refine G.r2 ?_|refine G.r3 ?_|refine G.r0 ?_|refine G.d0 ?_);(try simp (disch:=first|exact dis|fail) only [push_cast,↓reduceIte,zq1,zq2,zq3,zq4,zq5,fct])
    exact ⟨by clear hS;simp_all [whyM],Sep.xt (by assumption)⟩
theorem cut_one (f:Str) (k:Nat) (hk:(k:Int) < f.length):(f.drop k).take (k+1 - k)=[f.getD k 0]:=by
  rw [dropD f k hk,show k+1 - k=1 by omega];rfl
def c60l1:MC:=(.seq (.seq (.reg [qm 14 7,qm 15 1,qq 16 (.lenS (.tmp 15)),qq 17 (.bin .lss (.tmp 14) (.tmp 16))]) (.cond (.tmp 17) .skip (.exit 0))) (.seq (.blk 1 (.seq (.seq (.drg [qm 20 1,qm 21 7,qq 22 (.idxS (.tmp 20) (.tmp 21)),qq 23 (.cvi .i64 (.tmp 22)),qq 24 (.fad 1 (.tmp 2)),qq 25 (.ld none (.tmp 24)),qq 26 (.bin .eql (.tmp 23) (.tmp 25))] none) (.cond (.tmp 26) (.reg [qm 27 6,qm 28 5,qq 29 (.bin .add (.tmp 27) (.tmp 28)),qm 6 29]) .skip)) (.reg [qm 30 6,qm 31 1,qm 32 7,qm 33 7,qq 34 (.bin .add (.tmp 33) (ki 1)),qq 35 (.slS (.tmp 31) (.some (.tmp 32)) (.some (.tmp 34))),qq 36 (.bin .add (.tmp 30) (.tmp 35)),qm 6 36]))) (.reg [qm 18 7,qq 19 (.bin .add (.tmp 18) (ki 1)),qm 7 19])))
def c60:MC:=(.seq (.reg [qq 2 (.raw (.box 44 (.tmp 0)) 0),qq 4 (.mv (.const (S [])))]) (.seq (.reg [qq 8 (.fad 1 (.tmp 2)),qq 9 (.ld none (.tmp 8)),qq 10 (.cvi .u8 (.tmp 9)),qq 11 (.bsl 5 [(.int .u8 0)] 1 [⟨0,⟨1,(.tmp 10)⟩⟩]),qq 12 (.b2s (.tmp 11)),qm 5 12]) (.seq (.reg [qm 13 5,qm 6 13]) (.seq (.seq (.reg [qq 7 (.mv (ki 0))]) (.blk 0 (.loop c60l1))) (.seq (.reg [qm 37 6,qm 38 5,qq 39 (.bin .add (.tmp 37) (.tmp 38)),qm 4 39]) .ret)))))
theorem k60:conv Tryz.prog 40 (Tryz.f60.body.getD .skip)=c60:=by kernel_rfl
theorem in60 {a0 a1:Value} {w:World} {R:Value→World→Prop} (h:G Tryz.prog Tryz.f60 40 [.c c60] R (frL 0 [a0,a1]) w):Ret Tryz.prog 60 #[a0,a1] w R:=G.enter (args:=[a0,a1]) Tryz.func60 (c:=Tryz.f60.body.getD .skip) (by kernel_rfl) (by kernel_rfl) (by simp) k60 h
theorem rquoted9_spec (d:Dl) (hd:byD d) (f:Str) (w:World) (hl:f.length≤1000000000):Pu Tryz.prog 60 #[(.agg #[I d.dl,I d.q,I d.e]),S f] w (S (quoM d f)):=by
  refine in60 ?_
  have hS:=Sep.start w
  have hq:((bQ d).toNat:Int)=d.q:=byte_of ⟨hd.2.2.1,hd.2.2.2⟩
  have hbq:UInt8.ofNat d.q.toNat=bQ d:=rfl
  have hu8:=u8_id ⟨hd.2.2.1,hd.2.2.2⟩
  have hql:=quoB_len (bQ d)
  (have fct:=(And.intro @hbq @hu8);repeat' (first|((with_reducible apply G.a);exact rfl)|refine G.reg fun K hK=>?_|(with_reducible (refine hK _ _ ?_);clear hK K)|(with_reducible (refine hK _ ?_);clear hK K;intro wd hxd;have hS:=Sep.xx hxd)|(have hk:=hK;clear hk;simp (disch:=first|exact dis|fail) only [push_cast,↓reduceIte,zq1,zq2,zq3,zq4,zq5,fct])|((first|refine zbsl ?_|((with_reducible refine gBox ?_);refine zbox ?_));intro gb wb hS)|(refine G.drt mixed fun K hK wd hxd=>?_;have hS:=Sep.xx hxd)|refine G.drg mixed fun K hK=>?_|(refine G.cn ?_ ?_<;>intro hc<;>first|(with_reducible exact False.elim hc)|(exfalso;omega)|skip)))<;>(try clear fct)
  refine G.loop (fun r w'=>∃ (k g2:Nat),k≤f.length∧r 1=S f∧r 2=.pointer (some ⟨g2,0,none⟩)∧r 5=S [bQ d]∧r 6=S (bQ d :: (f.take k).flatMap (quoB (bQ d)))∧r 7=I k∧Sep w w' [boxC g2 44 [I d.dl,I d.q,I d.e]]) (fun r _=>f.length - toN (r 7)) ?_ ?_
  · have fct:=(And.intro @hbq @hu8);exact ⟨0,_,Nat.zero_le _,by exact sf,by exact sf,by exact sf,by exact sf,by exact sf,(Sep.sub hS (by repeat first|exact Sub.rfl'|exact Sub.n|(refine Sub.c (by repeat constructor) ?_)|refine Sub.skip ?_))⟩
  · clear hS
    rintro u wl ⟨k,g2,hk,q1,q2,q5,q6,q7,hS⟩ ih
    have hm:toN (u 7)=k:=by rw [q7];simp [toN]
    have hqk:=hql (f.take k)
    have htk:(f.take k).length≤k:=by rw [List.length_take];omega
    by_cases hkk:(k:Int) < f.length
    · have hsn:=quoB_snoc0 (bQ d) f k hkk
      have hT:((k:Int)+1).toNat=k+1:=by omega
      have hc1:=cut_one f k hkk
      have hwr:IntKind.i64.wrap ((f.getD k 0).toNat:Int)=(f.getD k 0).toNat:=i64_id (by have:=(f.getD k 0).toNat_lt;omega)
      by_cases hcq:((f.getD k 0).toNat:Int)=d.q
      · have hfc:=u8_ofI hq hcq
        have hqb:quoB (bQ d) (f.getD k 0)=[bQ d]++[f.getD k 0]:=by rw [hfc];simp [quoB]
        rw [hqb,←List.append_assoc] at hsn
        (have fct:=(And.intro @q1 (And.intro @q2 (And.intro @q5 (And.intro @q6 (And.intro @q7 (And.intro @hT (And.intro @hc1 @hwr)))))));repeat' (first|((with_reducible apply G.a);exact rfl)|refine G.reg fun K hK=>?_|(with_reducible (refine hK _ _ ?_);clear hK K)|(with_reducible (refine hK _ ?_);clear hK K;intro wd hxd;have hS:=Sep.xx hxd)|(have hk:=hK;clear hk;simp (disch:=first|exact dis|fail) only [push_cast,↓reduceIte,zq1,zq2,zq3,zq4,zq5,fct])|((first|refine zbsl ?_|((with_reducible refine gBox ?_);refine zbox ?_));intro gb wb hS)|(refine G.drt mixed fun K hK wd hxd=>?_;have hS:=Sep.xx hxd)|refine G.drg mixed fun K hK=>?_|(refine G.cn ?_ ?_<;>intro hc<;>first|(with_reducible exact False.elim hc)|(exfalso;omega)|skip)))<;>(try clear fct)
        all_goals
          have fct:=(And.intro @q1 (And.intro @q2 (And.intro @q5 (And.intro @q6 @q7))));refine ih _ _ ⟨k+1,g2,by omega,by exact sf,by exact sf,by exact sf,by rw [hsn];simp only [push_cast,↓reduceIte,zq1,zq2,zq3,zq4,zq5,q1,q2,q5,q6,q7,hT,hc1,List.cons_append],by exact sf,(Sep.sub hS (by repeat first|exact Sub.rfl'|exact Sub.n|(refine Sub.c (by repeat constructor) ?_)|refine Sub.skip ?_))⟩ ?_
          rw [hm];simp only [push_cast,↓reduceIte,zq1,zq2,zq3,zq4,zq5,toN_i,q1,q2,q5,q6,q7];omega
      · have hfc:¬ f.getD k 0=bQ d:=fun e=>hcq (by rw [e];exact hq)
        have hqb:quoB (bQ d) (f.getD k 0)=[f.getD k 0]:=by simp only [quoB,if_neg hfc]
        rw [hqb] at hsn
        (have fct:=(And.intro @q1 (And.intro @q2 (And.intro @q5 (And.intro @q6 (And.intro @q7 (And.intro @hT (And.intro @hc1 @hwr)))))));repeat' (first|((with_reducible apply G.a);exact rfl)|refine G.reg fun K hK=>?_|(with_reducible (refine hK _ _ ?_);clear hK K)|(with_reducible (refine hK _ ?_);clear hK K;intro wd hxd;have hS:=Sep.xx hxd)|(have hk:=hK;clear hk;simp (disch:=first|exact dis|fail) only [push_cast,↓reduceIte,zq1,zq2,zq3,zq4,zq5,fct])|((first|refine zbsl ?_|((with_reducible refine gBox ?_);refine zbox ?_));intro gb wb hS)|(refine G.drt mixed fun K hK wd hxd=>?_;have hS:=Sep.xx hxd)|refine G.drg mixed fun K hK=>?_|(refine G.cn ?_ ?_<;>intro hc<;>first|(with_reducible exact False.elim hc)|(exfalso;omega)|skip)))<;>(try clear fct)
        all_goals
          have fct:=(And.intro @q1 (And.intro @q2 (And.intro @q5 (And.intro @q6 @q7))));refine ih _ _ ⟨k+1,g2,by omega,by exact sf,by exact sf,by exact sf,by rw [hsn];simp only [push_cast,↓reduceIte,zq1,zq2,zq3,zq4,zq5,q1,q2,q5,q6,q7,hT,hc1,List.cons_append],by exact sf,(Sep.sub hS (by repeat first|exact Sub.rfl'|exact Sub.n|(refine Sub.c (by repeat constructor) ?_)|refine Sub.skip ?_))⟩ ?_
          rw [hm];simp only [push_cast,↓reduceIte,zq1,zq2,zq3,zq4,zq5,toN_i,q1,q2,q5,q6,q7];omega
    · have hta:f.take k=f:=List.take_of_length_le (by omega)
      rw [hta] at q6 hqk
      (have fct:=(And.intro @q1 (And.intro @q2 (And.intro @q5 (And.intro @q6 @q7))));repeat' (first|((with_reducible apply G.a);exact rfl)|refine G.reg fun K hK=>?_|(with_reducible (refine hK _ _ ?_);clear hK K)|(with_reducible (refine hK _ ?_);clear hK K;intro wd hxd;have hS:=Sep.xx hxd)|(have hk:=hK;clear hk;simp (disch:=first|exact dis|fail) only [push_cast,↓reduceIte,zq1,zq2,zq3,zq4,zq5,fct])|((first|refine zbsl ?_|((with_reducible refine gBox ?_);refine zbox ?_));intro gb wb hS)|(refine G.drt mixed fun K hK wd hxd=>?_;have hS:=Sep.xx hxd)|refine G.drg mixed fun K hK=>?_|(refine G.cn ?_ ?_<;>intro hc<;>first|(with_reducible exact False.elim hc)|(exfalso;omega)|skip)))<;>(try clear fct)
      all_goals
        (have fct:=(And.intro @q1 (And.intro @q2 (And.intro @q5 (And.intro @q6 @q7))));(first|refine G.r1 ?_|refine G.r2 ?_|refine G.r3 ?_|refine G.r0 ?_|refine G.d0 ?_);(try simp (disch:=first|exact dis|fail) only [push_cast,↓reduceIte,zq1,zq2,zq3,zq4,zq5,fct]);(try clear fct))
        exact ⟨rfl,Sep.xt (by assumption)⟩
def c43:MC:=(.seq (.reg [qq 4 (.raw (.box 44 (.tmp 0)) 0),qq 8 (.mv (.const (S [])))]) (.seq (.seq (.reg [qq 9 (.ld (.some 3) (.tmp 4)),qm 10 1,qm 11 2,qm 12 3,qq 13 (.call 59 [(.tmp 9),(.tmp 10),(.tmp 11),(.tmp 12)]),qq 14 (.bin .gtr (.tmp 13) (ki 0))]) (.cond (.tmp 14) (.seq (.reg [qq 15 (.ld (.some 3) (.tmp 4)),qm 16 1,qq 17 (.call 60 [(.tmp 15),(.tmp 16)]),qm 8 17]) .ret) .skip)) (.seq (.reg [qm 18 1,qm 8 18]) .ret)))
theorem k43:conv Tryz.prog 19 (Tryz.f43.body.getD .skip)=c43:=by kernel_rfl
theorem in43 {a0 a1 a2 a3:Value} {w:World} {R:Value→World→Prop} (h:G Tryz.prog Tryz.f43 19 [.c c43] R (frL 0 [a0,a1,a2,a3]) w):Ret Tryz.prog 43 #[a0,a1,a2,a3] w R:=G.enter (args:=[a0,a1,a2,a3]) Tryz.func43 (c:=Tryz.f43.body.getD .skip) (by kernel_rfl) (by kernel_rfl) (by simp) k43 h
theorem rwritten_spec (d:Dl) (hd:byD d) (f:Str) (a b:Bool) (w:World) (hl:f.length≤1000000000):Pu Tryz.prog 43 #[(.agg #[I d.dl,I d.q,I d.e]),S f,I (oneI a),I (oneI b)] w (S (wrM d f a b)):=by
  refine in43 ?_
  have hS:=Sep.start w
  unfold wrM
  by_cases h:0 < whyM d f a b
  · rw [if_pos h]
    repeat' (first|((with_reducible apply G.a);exact rfl)|refine G.reg fun K hK=>?_|(with_reducible (refine hK _ _ ?_);clear hK K)|(have hk:=hK;clear hk;simp (disch:=first|exact dis|fail) only [push_cast,↓reduceIte,zq1,zq2,zq3,zq4,zq5,fct])|(((with_reducible refine gBox ?_);refine zbox ?_);intro gb wb hS)|(refine zcp 59 (rwhy_spec d hd f a b _ hl) ?_;intro wb hS)|(refine zcp 60 (rquoted9_spec d hd f _ hl) ?_;intro wb hS)|(refine G.cn ?_ ?_<;>intro hc<;>first|(with_reducible exact False.elim hc)|(exfalso;omega)|skip))
    all_goals
      (first|refine G.r1 ?_|refine G.r2 ?_|refine G.r3 ?_|refine G.r0 ?_|refine G.d0 ?_);(try simp (disch:=first|exact dis|fail) only [push_cast,↓reduceIte,zq1,zq2,zq3,zq4,zq5,fct])
      exact Sep.xt (by assumption)
  · rw [if_neg h]
    repeat' (first|((with_reducible apply G.a);exact rfl)|refine G.reg fun K hK=>?_|(with_reducible (refine hK _ _ ?_);clear hK K)|(have hk:=hK;clear hk;simp (disch:=first|exact dis|fail) only [push_cast,↓reduceIte,zq1,zq2,zq3,zq4,zq5,fct])|(((with_reducible refine gBox ?_);refine zbox ?_);intro gb wb hS)|(refine zcp 59 (rwhy_spec d hd f a b _ hl) ?_;intro wb hS)|(refine zcp 60 (rquoted9_spec d hd f _ hl) ?_;intro wb hS)|(refine G.cn ?_ ?_<;>intro hc<;>first|(with_reducible exact False.elim hc)|(exfalso;omega)|skip))
    all_goals
      (first|refine G.r1 ?_|refine G.r2 ?_|refine G.r3 ?_|refine G.r0 ?_|refine G.d0 ?_);(try simp (disch:=first|exact dis|fail) only [push_cast,↓reduceIte,zq1,zq2,zq3,zq4,zq5,fct])
      exact Sep.xt (by assumption)
def c28:MC:=(.seq (.reg [qq 1 (.raw (.box 44 (.tmp 0)) 0),qq 2 (.mv (.const (S [])))]) (.seq (.seq (.reg [qq 3 (.fad 2 (.tmp 1)),qq 4 (.ld none (.tmp 3)),qq 5 (.bin .eql (.tmp 4) (ki 2))]) (.cond (.tmp 5) (.seq (.reg [qq 2 (.mv (.const (S [13,10])))]) .ret) .skip)) (.seq (.reg [qq 2 (.mv (.const (S [10])))]) .ret)))
theorem k28:conv Tryz.prog 6 (Tryz.f28.body.getD .skip)=c28:=by kernel_rfl
theorem in28 {a0:Value} {w:World} {R:Value→World→Prop} (h:G Tryz.prog Tryz.f28 6 [.c c28] R (frL 0 [a0]) w):Ret Tryz.prog 28 #[a0] w R:=G.enter (args:=[a0]) Tryz.func28 (c:=Tryz.f28.body.getD .skip) (by kernel_rfl) (by kernel_rfl) (by simp) k28 h
theorem rend_spec (d:Dl) (w:World):Pu Tryz.prog 28 #[(.agg #[I d.dl,I d.q,I d.e])] w (S (endM d)):=by
  refine in28 ?_
  have hS:=Sep.start w
  unfold endM
  by_cases h:d.e=2
  · rw [if_pos h]
    repeat' (first|((with_reducible apply G.a);exact rfl)|refine G.reg fun K hK=>?_|(with_reducible (refine hK _ _ ?_);clear hK K)|(have hk:=hK;clear hk;simp (disch:=first|exact dis|fail) only [push_cast,↓reduceIte,zq1,zq2,zq3,zq4,zq5,fct])|(((with_reducible refine gBox ?_);refine zbox ?_);intro gb wb hS)|(refine G.cn ?_ ?_<;>intro hc<;>first|(with_reducible exact False.elim hc)|(exfalso;omega)|skip))
    all_goals
      (first|refine G.r1 ?_|refine G.r2 ?_|refine G.r3 ?_|refine G.r0 ?_|refine G.d0 ?_);(try simp (disch:=first|exact dis|fail) only [push_cast,↓reduceIte,zq1,zq2,zq3,zq4,zq5,fct])
      exact Sep.xt (by assumption)
  · rw [if_neg h]
    repeat' (first|((with_reducible apply G.a);exact rfl)|refine G.reg fun K hK=>?_|(with_reducible (refine hK _ _ ?_);clear hK K)|(have hk:=hK;clear hk;simp (disch:=first|exact dis|fail) only [push_cast,↓reduceIte,zq1,zq2,zq3,zq4,zq5,fct])|(((with_reducible refine gBox ?_);refine zbox ?_);intro gb wb hS)|(refine G.cn ?_ ?_<;>intro hc<;>first|(with_reducible exact False.elim hc)|(exfalso;omega)|skip))
    all_goals
      (first|refine G.r1 ?_|refine G.r2 ?_|refine G.r3 ?_|refine G.r0 ?_|refine G.d0 ?_);(try simp (disch:=first|exact dis|fail) only [push_cast,↓reduceIte,zq1,zq2,zq3,zq4,zq5,fct])
      exact Sep.xt (by assumption)
def c42:MC:=(.seq (.reg [qq 2 (.mv (ki 0))]) (.seq (.seq (.reg [qm 3 0]) (.cond (.tmp 3) (.seq (.reg [qq 2 (.mv (ki 1))]) .ret) .skip)) (.seq (.reg [qq 2 (.mv (ki 0))]) .ret)))
theorem k42:conv Tryz.prog 4 (Tryz.f42.body.getD .skip)=c42:=by kernel_rfl
theorem in42 {a0:Value} {w:World} {R:Value→World→Prop} (h:G Tryz.prog Tryz.f42 4 [.c c42] R (frL 0 [a0]) w):Ret Tryz.prog 42 #[a0] w R:=G.enter (args:=[a0]) Tryz.func42 (c:=Tryz.f42.body.getD .skip) (by kernel_rfl) (by kernel_rfl) (by simp) k42 h
theorem one_spec (b:Bool) (w:World):Pu Tryz.prog 42 #[.bool b] w (I (oneI b)):=by
  refine in42 ?_
  have hS:=Sep.start w
  cases b
  all_goals
    repeat' (first|((with_reducible apply G.a);exact rfl)|refine G.reg fun K hK=>?_|(with_reducible (refine hK _ _ ?_);clear hK K)|(have hk:=hK;clear hk;simp (disch:=first|exact dis|fail) only [push_cast,↓reduceIte,zq1,zq2,zq3,zq4,zq5,fct])|(refine G.cn ?_ ?_<;>intro hc<;>first|(with_reducible exact False.elim hc)|(exfalso;omega)|skip))
    all_goals
      (first|refine G.r1 ?_|refine G.r2 ?_|refine G.r3 ?_|refine G.r0 ?_|refine G.d0 ?_);(try simp (disch:=first|exact dis|fail) only [push_cast,↓reduceIte,zq1,zq2,zq3,zq4,zq5,fct])
      exact ⟨rfl,Sep.xt (by assumption)⟩
def c23l1:MC:=(.seq (.reg [qq 11 (.bin .lss (.tmp 10) (.tmp 9))]) (.seq (.cond (.tmp 11) .skip (.exit 0)) (.seq (.blk 1 (.seq (.reg [qq 12 (.adr 1 (.tmp 8) (.tmp 10)),qq 13 (.ld none (.tmp 12)),qm 4 13]) (.seq (.reg [qm 14 4,qq 15 (.call 39 [(.tmp 14)]),qm 16 4,qq 17 (.lenS (.tmp 16)),qq 18 (.bin .lss (.tmp 15) (.tmp 17))]) (.cond (.tmp 18) (.seq (.reg [qq 2 (.mv (ki 14))]) .ret) .skip)))) (.reg [qq 19 (.bin .add (.tmp 10) (ki 1)),qm 10 19]))))
def c23:MC:=(.seq (.reg [qq 2 (.mv (ki 0))]) (.seq (.seq (.reg [qm 5 0,qq 6 (.len (.tmp 5)),qq 7 (.bin .eql (.tmp 6) (ki 0))]) (.cond (.tmp 7) (.seq (.reg [qq 2 (.mv (ki 13))]) .ret) .skip)) (.seq (.seq (.reg [qm 8 0,qq 9 (.len (.tmp 8)),qq 10 (.mv (ki 0))]) (.blk 0 (.loop c23l1))) (.seq (.reg [qq 2 (.mv (ki 0))]) .ret))))
theorem k23:conv Tryz.prog 20 (Tryz.f23.body.getD .skip)=c23:=by kernel_rfl
theorem in23 {a0:Value} {w:World} {R:Value→World→Prop} (h:G Tryz.prog Tryz.f23 20 [.c c23] R (frL 0 [a0]) w):Ret Tryz.prog 23 #[a0] w R:=G.enter (args:=[a0]) Tryz.func23 (c:=Tryz.f23.body.getD .skip) (by kernel_rfl) (by kernel_rfl) (by simp) k23 h
theorem rmay_spec (hr:Rd w eS v r) (hN:∀ f∈r,f.length≤1000000):Pu Tryz.prog 23 #[v] w (I (mayR r)):=by
  refine in23 ?_
  have hS:=Sep.start w
  have hbd:=hr.bd
  by_cases hr0:r=[]
  · have hl0:r.length=0:=by rw [hr0];rfl
    (have fct:=@hl0;repeat' (first|((with_reducible apply G.a);exact rfl)|refine G.reg fun K hK=>?_|(with_reducible (refine hK _ _ ?_);clear hK K)|(have hk:=hK;clear hk;simp (disch:=first|exact dis|fail) only [push_cast,↓reduceIte,zq1,zq2,zq3,zq4,zq5,fct])|(refine G.cn ?_ ?_<;>intro hc<;>first|(with_reducible exact False.elim hc)|(exfalso;omega)|skip)))<;>(try clear fct)
    all_goals
      (first|refine G.r1 ?_|refine G.r2 ?_|refine G.r3 ?_|refine G.r0 ?_|refine G.d0 ?_);(try simp (disch:=first|exact dis|fail) only [push_cast,↓reduceIte,zq1,zq2,zq3,zq4,zq5,fct])
      exact ⟨by unfold mayR;rw [if_pos hr0],Sep.xt (by assumption)⟩
  · have hl0 : 0 < r.length:=List.length_pos_iff.2 hr0
    repeat' (first|((with_reducible apply G.a);exact rfl)|refine G.reg fun K hK=>?_|(with_reducible (refine hK _ _ ?_);clear hK K)|(have hk:=hK;clear hk;simp (disch:=first|exact dis|fail) only [push_cast,↓reduceIte,zq1,zq2,zq3,zq4,zq5,fct])|(refine G.cn ?_ ?_<;>intro hc<;>first|(with_reducible exact False.elim hc)|(exfalso;omega)|skip))
    refine G.loop (fun x w'=>∃ (k:Nat),k≤r.length∧x 8=v∧x 9=I r.length∧x 10=I k∧(r.drop k).all validM=r.all validM∧Sep w w' []) (fun x _=>r.length - toN (x 10)) ?_ ?_
    · exact ⟨0,Nat.zero_le _,by exact sf,by exact sf,by exact sf,rfl,hS⟩
    · clear hS
      rintro u wl ⟨k,hk,q8,q9,q10,hv,hS⟩ ih
      have hm:toN (u 10)=k:=by rw [q10];simp [toN]
      by_cases hkk:(k:Int) < r.length
      · have hst:=allV_step r k hkk
        have hfk:=hN _ (getD_mem r k hkk)
        rw [hv] at hst
        have hwb:=wholeM_le _ (r.getD k default) (Nat.le_refl _)
        have hvw:=(bads (r.getD k default)).2.1
        cases hvk:validM (r.getD k default)
        · rw [hvk,Bool.false_and] at hst
          rw [hvk] at hvw
          have hlt:wholeM (r.getD k default) < (r.getD k default).length:=by
            have:=beq_eq_false_iff_ne.1 hvw.symm;omega
          (have fct:=(And.intro @q8 (And.intro @q9 @q10));repeat' (first|((with_reducible apply G.a);exact rfl)|refine G.reg fun K hK=>?_|(with_reducible (refine hK _ _ ?_);clear hK K)|(have hk:=hK;clear hk;simp (disch:=first|exact dis|fail) only [push_cast,↓reduceIte,zq1,zq2,zq3,zq4,zq5,fct])|(refine zcp 39 (whole_spec _ _ (by omega)) ?_;intro wb hS)|(refine G.cn ?_ ?_<;>intro hc<;>first|(with_reducible exact False.elim hc)|(exfalso;omega)|skip)))<;>(try clear fct)
          all_goals
            (have fct:=(And.intro @q8 (And.intro @q9 @q10));(first|refine G.r1 ?_|refine G.r2 ?_|refine G.r3 ?_|refine G.r0 ?_|refine G.d0 ?_);(try simp (disch:=first|exact dis|fail) only [push_cast,↓reduceIte,zq1,zq2,zq3,zq4,zq5,fct]);(try clear fct))
            exact ⟨by unfold mayR;rw [if_neg hr0,if_neg (show ¬ r.all validM=true by rw [hst];decide)],Sep.xt (by assumption)⟩
        · rw [hvk,Bool.true_and] at hst
          rw [hvk] at hvw
          have hge:wholeM (r.getD k default)=(r.getD k default).length:=by simpa using hvw.symm
          (have fct:=(And.intro @q8 (And.intro @q9 @q10));repeat' (first|((with_reducible apply G.a);exact rfl)|refine G.reg fun K hK=>?_|(with_reducible (refine hK _ _ ?_);clear hK K)|(have hk:=hK;clear hk;simp (disch:=first|exact dis|fail) only [push_cast,↓reduceIte,zq1,zq2,zq3,zq4,zq5,fct])|(refine zcp 39 (whole_spec _ _ (by omega)) ?_;intro wb hS)|(refine G.cn ?_ ?_<;>intro hc<;>first|(with_reducible exact False.elim hc)|(exfalso;omega)|skip)))<;>(try clear fct)
          all_goals
            have fct:=(And.intro @q8 (And.intro @q9 @q10));refine ih _ _ ⟨k+1,by omega,by exact sf,by exact sf,by exact sf,hst.symm,(Sep.sub hS (by repeat first|exact Sub.rfl'|exact Sub.n|(refine Sub.c (by repeat constructor) ?_)|refine Sub.skip ?_))⟩ ?_
            rw [hm];simp only [push_cast,↓reduceIte,zq1,zq2,zq3,zq4,zq5,toN_i,q8,q9,q10];omega
      · rw [List.drop_eq_nil_of_le (by omega)] at hv
        (have fct:=(And.intro @q8 (And.intro @q9 @q10));repeat' (first|((with_reducible apply G.a);exact rfl)|refine G.reg fun K hK=>?_|(with_reducible (refine hK _ _ ?_);clear hK K)|(have hk:=hK;clear hk;simp (disch:=first|exact dis|fail) only [push_cast,↓reduceIte,zq1,zq2,zq3,zq4,zq5,fct])|(refine G.cn ?_ ?_<;>intro hc<;>first|(with_reducible exact False.elim hc)|(exfalso;omega)|skip)))<;>(try clear fct)
        all_goals
          (first|refine G.r1 ?_|refine G.r2 ?_|refine G.r3 ?_|refine G.r0 ?_|refine G.d0 ?_);(try simp (disch:=first|exact dis|fail) only [push_cast,↓reduceIte,zq1,zq2,zq3,zq4,zq5,fct])
          exact ⟨by unfold mayR;rw [if_neg hr0,if_pos (show r.all validM=true from hv.symm)],Sep.xt (by assumption)⟩
def c27l1:MC:=(.seq (.reg [qq 13 (.bin .lss (.tmp 12) (.tmp 11))]) (.seq (.cond (.tmp 13) .skip (.exit 0)) (.seq (.blk 1 (.seq (.reg [qm 14 12,qq 15 (.adr 1 (.tmp 10) (.tmp 12)),qq 16 (.ld none (.tmp 15)),qm 8 14,qm 9 16]) (.seq (.seq (.reg [qm 17 8,qq 18 (.bin .gtr (.tmp 17) (ki 0))]) (.cond (.tmp 18) (.reg [qm 19 7,qq 20 (.fad 0 (.tmp 3)),qq 21 (.ld none (.tmp 20)),qq 22 (.cvi .u8 (.tmp 21)),qq 23 (.bsl 5 [(.int .u8 0)] 1 [⟨0,⟨1,(.tmp 22)⟩⟩]),qq 24 (.b2s (.tmp 23)),qq 25 (.bin .add (.tmp 19) (.tmp 24)),qm 7 25]) .skip)) (.drg [qm 26 7,qq 27 (.ld (.some 3) (.tmp 3)),qm 28 9,qm 29 1,qq 30 (.len (.tmp 29)),qq 31 (.bin .eql (.tmp 30) (ki 1)),qq 32 (.call 42 [(.tmp 31)]),qm 33 2,qq 34 (.bin .eql (.tmp 33) (ki 1)),qm 35 34,qmt 35 36 8,qt 35 37 (.bin .eql (.tmp 36) (ki 0)),qq 38 (.pick (.tmp 35) (.tmp 37) (kb false)),qq 39 (.call 42 [(.tmp 38)]),qq 40 (.call 43 [(.tmp 27),(.tmp 28),(.tmp 32),(.tmp 39)]),qq 41 (.bin .add (.tmp 26) (.tmp 40)),qm 7 41] (.some (.br [qm 26 7,qm 28 9,qm 29 1,qq 30 (.len (.tmp 29)),qq 31 (.bin .eql (.tmp 30) (ki 1)),qm 33 2,qq 34 (.bin .eql (.tmp 33) (ki 1))] (.leaf [qq 27 (.ld (.some 3) (.tmp 3)),qq 32 (.call 42 [(.tmp 31)]),qm 35 34,qmt 35 36 8,qt 35 37 (.bin .eql (.tmp 36) (ki 0)),qq 38 (.pick (.tmp 35) (.tmp 37) (kb false)),qq 39 (.call 42 [(.tmp 38)]),qq 40 (.call 43 [(.tmp 27),(.tmp 28),(.tmp 32),(.tmp 39)]),qq 41 (.bin .add (.tmp 26) (.tmp 40)),qm 7 41]) (.br [qq 32 (.call 42 [(.tmp 31)]),qm 35 34,qmt 35 36 8,qt 35 37 (.bin .eql (.tmp 36) (ki 0)),qq 38 (.pick (.tmp 35) (.tmp 37) (kb false))] (.leaf [qq 27 (.ld (.some 3) (.tmp 3)),qq 39 (.call 42 [(.tmp 38)]),qq 40 (.call 43 [(.tmp 27),(.tmp 28),(.tmp 32),(.tmp 39)]),qq 41 (.bin .add (.tmp 26) (.tmp 40)),qm 7 41]) (.leaf [qq 39 (.call 42 [(.tmp 38)]),qq 27 (.ld (.some 3) (.tmp 3)),qq 40 (.call 43 [(.tmp 27),(.tmp 28),(.tmp 32),(.tmp 39)]),qq 41 (.bin .add (.tmp 26) (.tmp 40)),qm 7 41])))))))) (.reg [qq 42 (.bin .add (.tmp 12) (ki 1)),qm 12 42]))))
def c27:MC:=(.seq (.reg [qq 3 (.raw (.box 44 (.tmp 0)) 0),qq 6 (.mv (.const (S [])))]) (.seq (.reg [qq 7 (.mv (.const (S [])))]) (.seq (.seq (.reg [qm 10 1,qq 11 (.len (.tmp 10)),qq 12 (.mv (ki 0))]) (.blk 0 (.loop c27l1))) (.seq (.reg [qm 43 7,qq 44 (.ld (.some 3) (.tmp 3)),qq 45 (.call 28 [(.tmp 44)]),qq 46 (.bin .add (.tmp 43) (.tmp 45)),qm 6 46]) .ret))))
theorem k27:conv Tryz.prog 47 (Tryz.f27.body.getD .skip)=c27:=by kernel_rfl
theorem in27 {a0 a1 a2:Value} {w:World} {R:Value→World→Prop} (h:G Tryz.prog Tryz.f27 47 [.c c27] R (frL 0 [a0,a1,a2]) w):Ret Tryz.prog 27 #[a0,a1,a2] w R:=G.enter (args:=[a0,a1,a2]) Tryz.func27 (c:=Tryz.f27.body.getD .skip) (by kernel_rfl) (by kernel_rfl) (by simp) k27 h
set_option maxHeartbeats 1000000 in
theorem rline10_spec (d:Dl) (hd:byD d) (first:Bool) (w:World) (hr:Rd w eS v r) (hN:∀ f∈r,f.length≤1000000) (hl:r.length≤10000):Pu Tryz.prog 27 #[(.agg #[I d.dl,I d.q,I d.e]),v,I (oneI first)] w (S (lineM d r first)):=by
  refine in27 ?_
  have hS:=Sep.start w
  have hbq:UInt8.ofNat d.dl.toNat=bD d:=rfl
  have hu8:=u8_id ⟨hd.1,hd.2.1⟩
  repeat' (first|((with_reducible apply G.a);exact rfl)|refine G.reg fun K hK=>?_|(with_reducible (refine hK _ _ ?_);clear hK K)|(with_reducible (refine hK _ ?_);clear hK K;intro wd hxd;have hS:=Sep.xx hxd)|((first|have hk:=hK|have hk:=hK2);clear hk;simp (disch:=first|exact dis|fail) only [push_cast,↓reduceIte,zq1,zq2,zq3,zq4,zq5,fct])|((first|refine brO_n ?_ ?_|refine brQ_n ?_ ?_)<;>intro hb hc<;>first|(with_reducible exact False.elim hc)|(exfalso;omega)|(simp only [hb];clear hb))|((first|refine zbsl ?_|((with_reducible refine gBox ?_);refine zbox ?_));intro gb wb hS)|(refine G.drt mixed fun K hK wd hxd=>?_;have hS:=Sep.xx hxd)|with_reducible refine OT_leaf ?_|(with_reducible (refine hK2 _ ?_);clear hK2 K2;intro wd hxd;have hS:=Sep.xx hxd)|with_reducible refine OT_br fun K2 hK2=>?_|(refine hK2 _ _ ?_ ?_<;>clear hK2 K2)|refine G.drg mixed fun K hK=>?_|(refine G.cn ?_ ?_<;>intro hc<;>first|(with_reducible exact False.elim hc)|(exfalso;omega)|skip))
  refine G.loop (fun x w'=>∃ (k g3:Nat),k≤r.length∧x 1=v∧x 2=I (oneI first)∧x 3=.pointer (some ⟨g3,0,none⟩)∧x 7=S (lineF d r.length first 0 (r.take k))∧x 10=v∧x 11=I r.length∧x 12=I k∧Sep w w' [boxC g3 44 [I d.dl,I d.q,I d.e]]) (fun x _=>r.length - toN (x 12)) ?_ ?_
  · exact ⟨0,_,Nat.zero_le _,by exact sf,by exact sf,by exact sf,by exact sf,by exact sf,by exact sf,by exact sf,hS⟩
  · clear hS
    rintro u wl ⟨k,g3,hk,q1,q2,q3,q7,q10,q11,q12,hS⟩ ih
    have hm:toN (u 12)=k:=by rw [q12];simp [toN]
    have hfl:=lineF_len d r.length first 1000000 (r.take k) 0 (fun f hf=>hN f (List.mem_of_mem_take hf))
    have htl:(r.take k).length≤10000:=by rw [List.length_take];omega
    have hfl2:(lineF d r.length first 0 (r.take k)).length≤20000030000:=Nat.le_trans hfl (Nat.le_trans (Nat.mul_le_mul_right _ htl) (by decide))
    clear hfl
    have ho1:=oneI_b first
    by_cases hkk:(k:Int) < r.length
    · have hst:=lineF_step d r.length first r k hkk
      have hfk:=hN _ (getD_mem r k hkk)
      have hwl:=fun a b=>wrM_len d (r.getD k default) a b
      have hn1:((r.length:Int) == 1)=decide (r.length=1):=by rw [Bool.eq_iff_iff];simp;omega
      by_cases hk0:k=0
      · subst hk0
        have hpc:pieceM d r.length first 0 (r.getD 0 default)=wrM d (r.getD 0 default) (decide (r.length=1)) first:=by simp [pieceM]
        have hwl2:=hwl (decide (r.length=1)) first
        rw [hpc] at hst
        simp only [List.take_zero] at hfl2
        cases first
        all_goals
          (have fct:=(And.intro @q1 (And.intro @q2 (And.intro @q3 (And.intro @q7 (And.intro @q10 (And.intro @q11 (And.intro @q12 (And.intro @hn1 @ho1))))))));repeat' (first|((with_reducible apply G.a);exact rfl)|refine G.reg fun K hK=>?_|(with_reducible (refine hK _ _ ?_);clear hK K)|(with_reducible (refine hK _ ?_);clear hK K;intro wd hxd;have hS:=Sep.xx hxd)|((first|have hk:=hK|have hk:=hK2);clear hk;simp (disch:=first|exact dis|fail) only [push_cast,↓reduceIte,zq1,zq2,zq3,zq4,zq5,fct])|((first|refine brO_n ?_ ?_|refine brQ_n ?_ ?_)<;>intro hb hc<;>first|(with_reducible exact False.elim hc)|(exfalso;omega)|(simp only [hb];clear hb))|((first|refine zbsl ?_|((with_reducible refine gBox ?_);refine zbox ?_));intro gb wb hS)|(with_reducible refine And.intro (a:=OT _ _ _ _ _) (b:=OT _ _ _ _ _) ?_ ?_)|(refine zcp 42 (one_spec _ _) ?_;intro wb hS)|(refine zcp 43 (rwritten_spec d hd _ _ _ _ (by omega)) ?_;intro wb hS)|(refine G.drt mixed fun K hK wd hxd=>?_;have hS:=Sep.xx hxd)|with_reducible refine OT_leaf ?_|(with_reducible (refine hK2 _ ?_);clear hK2 K2;intro wd hxd;have hS:=Sep.xx hxd)|with_reducible refine OT_br fun K2 hK2=>?_|(refine hK2 _ _ ?_ ?_<;>clear hK2 K2)|refine G.drg mixed fun K hK=>?_|(refine G.cn ?_ ?_<;>intro hc<;>first|(with_reducible exact False.elim hc)|(exfalso;omega)|skip)))<;>(try clear fct)
          all_goals
            have fct:=(And.intro @q1 (And.intro @q2 (And.intro @q3 (And.intro @q7 (And.intro @q10 (And.intro @q11 @q12))))));refine ih _ _ ⟨0+1,g3,by omega,by exact sf,by exact sf,by exact sf,by rw [hst];simp only [push_cast,↓reduceIte,zq1,zq2,zq3,zq4,zq5,q1,q2,q3,q7,q10,q11,q12],by exact sf,by exact sf,by exact sf,(Sep.sub hS (by repeat first|exact Sub.rfl'|exact Sub.n|(refine Sub.c (by repeat constructor) ?_)|refine Sub.skip ?_))⟩ ?_
            rw [hm];simp only [push_cast,↓reduceIte,zq1,zq2,zq3,zq4,zq5,toN_i,q1,q2,q3,q7,q10,q11,q12];omega
      · have hkb:((k:Int) == 0)=false:=by simp;omega
        have hpc:pieceM d r.length first k (r.getD k default)=[bD d]++wrM d (r.getD k default) (decide (r.length=1)) false:=by simp [pieceM,hk0,show 0 < k by omega]
        have hwl2:=hwl (decide (r.length=1)) false
        rw [hpc,←List.append_assoc] at hst
        cases first
        all_goals
          (have fct:=(And.intro @q1 (And.intro @q2 (And.intro @q3 (And.intro @q7 (And.intro @q10 (And.intro @q11 (And.intro @q12 (And.intro @hn1 (And.intro @hkb (And.intro @ho1 (And.intro @hbq @hu8)))))))))));repeat' (first|((with_reducible apply G.a);exact rfl)|refine G.reg fun K hK=>?_|(with_reducible (refine hK _ _ ?_);clear hK K)|(with_reducible (refine hK _ ?_);clear hK K;intro wd hxd;have hS:=Sep.xx hxd)|((first|have hk:=hK|have hk:=hK2);clear hk;simp (disch:=first|exact dis|fail) only [push_cast,↓reduceIte,zq1,zq2,zq3,zq4,zq5,fct])|((first|refine brO_n ?_ ?_|refine brQ_n ?_ ?_)<;>intro hb hc<;>first|(with_reducible exact False.elim hc)|(exfalso;omega)|(simp only [hb];clear hb))|((first|refine zbsl ?_|((with_reducible refine gBox ?_);refine zbox ?_));intro gb wb hS)|(with_reducible refine And.intro (a:=OT _ _ _ _ _) (b:=OT _ _ _ _ _) ?_ ?_)|(refine zcp 42 (one_spec _ _) ?_;intro wb hS)|(refine zcp 43 (rwritten_spec d hd _ _ _ _ (by omega)) ?_;intro wb hS)|(refine G.drt mixed fun K hK wd hxd=>?_;have hS:=Sep.xx hxd)|with_reducible refine OT_leaf ?_|(with_reducible (refine hK2 _ ?_);clear hK2 K2;intro wd hxd;have hS:=Sep.xx hxd)|with_reducible refine OT_br fun K2 hK2=>?_|(refine hK2 _ _ ?_ ?_<;>clear hK2 K2)|refine G.drg mixed fun K hK=>?_|(refine G.cn ?_ ?_<;>intro hc<;>first|(with_reducible exact False.elim hc)|(exfalso;omega)|skip)))<;>(try clear fct)
          all_goals
            have fct:=(And.intro @q1 (And.intro @q2 (And.intro @q3 (And.intro @q7 (And.intro @q10 (And.intro @q11 @q12))))));refine ih _ _ ⟨k+1,g3,by omega,by exact sf,by exact sf,by exact sf,by rw [hst];simp only [push_cast,↓reduceIte,zq1,zq2,zq3,zq4,zq5,q1,q2,q3,q7,q10,q11,q12,hbq,hu8],by exact sf,by exact sf,by exact sf,(Sep.sub hS (by repeat first|exact Sub.rfl'|exact Sub.n|(refine Sub.c (by repeat constructor) ?_)|refine Sub.skip ?_))⟩ ?_
            rw [hm];simp only [push_cast,↓reduceIte,zq1,zq2,zq3,zq4,zq5,toN_i,q1,q2,q3,q7,q10,q11,q12];omega
    · have hta:r.take k=r:=List.take_of_length_le (by omega)
      rw [hta] at q7 hfl2
      have hel:(endM d).length≤2:=by unfold endM;split<;>simp
      (have fct:=(And.intro @q1 (And.intro @q2 (And.intro @q3 (And.intro @q7 (And.intro @q10 (And.intro @q11 @q12))))));repeat' (first|((with_reducible apply G.a);exact rfl)|refine G.reg fun K hK=>?_|(with_reducible (refine hK _ _ ?_);clear hK K)|(with_reducible (refine hK _ ?_);clear hK K;intro wd hxd;have hS:=Sep.xx hxd)|((first|have hk:=hK|have hk:=hK2);clear hk;simp (disch:=first|exact dis|fail) only [push_cast,↓reduceIte,zq1,zq2,zq3,zq4,zq5,fct])|((first|refine brO_n ?_ ?_|refine brQ_n ?_ ?_)<;>intro hb hc<;>first|(with_reducible exact False.elim hc)|(exfalso;omega)|(simp only [hb];clear hb))|((first|refine zbsl ?_|((with_reducible refine gBox ?_);refine zbox ?_));intro gb wb hS)|(refine zcp 28 (rend_spec d _) ?_;intro wb hS)|(refine G.drt mixed fun K hK wd hxd=>?_;have hS:=Sep.xx hxd)|with_reducible refine OT_leaf ?_|(with_reducible (refine hK2 _ ?_);clear hK2 K2;intro wd hxd;have hS:=Sep.xx hxd)|with_reducible refine OT_br fun K2 hK2=>?_|(refine hK2 _ _ ?_ ?_<;>clear hK2 K2)|refine G.drg mixed fun K hK=>?_|(refine G.cn ?_ ?_<;>intro hc<;>first|(with_reducible exact False.elim hc)|(exfalso;omega)|skip)))<;>(try clear fct)
      all_goals
        (have fct:=(And.intro @q1 (And.intro @q2 (And.intro @q3 (And.intro @q7 (And.intro @q10 (And.intro @q11 @q12))))));(first|refine G.r1 ?_|refine G.r2 ?_|refine G.r3 ?_|refine G.r0 ?_|refine G.d0 ?_);(try simp (disch:=first|exact dis|fail) only [push_cast,↓reduceIte,zq1,zq2,zq3,zq4,zq5,fct]);(try clear fct))
        exact ⟨rfl,Sep.xt (by assumption)⟩
end
end Go.Proofs.YtllanbmpacgigaaGreatDoor
