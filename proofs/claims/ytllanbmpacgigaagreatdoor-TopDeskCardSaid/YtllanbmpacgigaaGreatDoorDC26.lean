/- Texts of the proof, joined. -/
import Derived.Test.YtllanbmpacgigaaGreatDoorDS10
import Derived.Test.YtllanbmpacgigaaGreatDoorDZ10
namespace Go.Proofs.YtllanbmpacgigaaGreatDoor
open Nat renaming reduceAdd→zq1,reduceLeDiff→zq2,reduceEqDiff→zq3,reduceLT→zq4
open Int renaming reduceToNat→zq5
set_option linter.unusedSimpArgs false
set_option linter.unusedVariables false
attribute [local irreducible] SemK UnitK StK AlcK BslK CallK CallV Instr.box Builtin.append_ Instr.makeSlice Instr.makeMap Instr.lookup Instr.mapUpdate Instr.sliceAt convert
open Go.RowKit
section
variable {v:Value} {t:List (List Str)} {w:World}
def TabOK (A N:Nat) (t:List (List Str)):Prop:=∀ r∈t,mayR r=0∧r.length≤A∧∀ f∈r,f.length≤N
def c41l1:MC:=(.seq (.reg [qq 8 (.bin .lss (.tmp 7) (.tmp 6))]) (.seq (.cond (.tmp 8) .skip (.exit 0)) (.seq (.blk 1 (.seq (.reg [qm 9 7,qq 10 (.adr 1 (.tmp 5) (.tmp 7)),qq 11 (.ld none (.tmp 10)),qm 3 9,qm 4 11]) (.seq (.reg [qm 12 4,qq 13 (.call 23 [(.tmp 12)]),qq 14 (.bin .neq (.tmp 13) (ki 0))]) (.cond (.tmp 14) (.seq (.reg [qm 15 3,qm 2 15]) .ret) .skip)))) (.reg [qq 16 (.bin .add (.tmp 7) (ki 1)),qm 7 16]))))
def c41:MC:=(.seq (.reg [qq 2 (.mv (ki 0))]) (.seq (.seq (.reg [qm 5 0,qq 6 (.len (.tmp 5)),qq 7 (.mv (ki 0))]) (.blk 0 (.loop c41l1))) (.seq (.reg [qm 17 0,qq 18 (.len (.tmp 17)),qm 2 18]) .ret)))
theorem k41:conv Tryz.prog 19 (Tryz.f41.body.getD .skip)=c41:=by kernel_rfl
theorem in41 {a0:Value} {w:World} {R:Value→World→Prop} (h:G Tryz.prog Tryz.f41 19 [.c c41] R (frL 0 [a0]) w):Ret Tryz.prog 41 #[a0] w R:=G.enter (args:=[a0]) Tryz.func41 (c:=Tryz.f41.body.getD .skip) (by kernel_rfl) (by kernel_rfl) (by simp) k41 h
theorem front_spec (hr:RdN w eS v t) (h:TabOK 1000 1000 t):Pu Tryz.prog 41 #[v] w (I t.length):=by
  obtain ⟨vs,hv,hl,hrow⟩:=hr
  have hbd:=hv.bd
  refine in41 ?_
  have hS:=Sep.start w
  repeat' (first|((with_reducible apply G.a);exact rfl)|refine G.reg fun K hK=>?_|(with_reducible (refine hK _ _ ?_);clear hK K)|(have hk:=hK;clear hk;simp (disch:=first|exact dis|fail) only [push_cast,↓reduceIte,zq1,zq2,zq3,zq4,zq5,fct])|(refine G.cn ?_ ?_<;>intro hc<;>first|(with_reducible exact False.elim hc)|(exfalso;omega)|skip))
  refine G.loop (fun r w'=>∃ k:Nat,k≤t.length∧r 0=v∧r 5=v∧r 6=I vs.length∧r 7=I k∧Sep w w' []) (fun r _=>t.length - toN (r 7)) ?_ ?_
  · exact ⟨0,Nat.zero_le _,by exact sf,by exact sf,by exact sf,by exact sf,hS⟩
  · clear hS
    rintro u wl ⟨k,hk,q0,q5,q6,q7,hS⟩ ih
    have hm:toN (u 7)=k:=by rw [q7];simp [toN]
    by_cases hlt:(k:Int) < t.length
    · obtain ⟨h1,h2,h3⟩:=h _ (getD_mem t k hlt)
      have hmy:∀ {w2:World},Ext w w2→Pu Tryz.prog 23 #[vs.getD k default] w2 (I 0):=fun {w2} hx=>by
        have:=rmay_spec ((hrow k hlt).ext hx) fun f hf=>Nat.le_trans (h3 f hf) (by decide)
        rwa [h1] at this
      (have fct:=(And.intro @q0 (And.intro @q5 (And.intro @q6 @q7)));repeat' (first|((with_reducible apply G.a);exact rfl)|refine G.reg fun K hK=>?_|(with_reducible (refine hK _ _ ?_);clear hK K)|(have hk:=hK;clear hk;simp (disch:=first|exact dis|fail) only [push_cast,↓reduceIte,zq1,zq2,zq3,zq4,zq5,fct])|(refine zcp 23 (hmy hS.x) ?_;intro wb hS)|(refine G.cn ?_ ?_<;>intro hc<;>first|(with_reducible exact False.elim hc)|(exfalso;omega)|skip)))<;>(try clear fct)
      all_goals
        have fct:=(And.intro @q0 (And.intro @q5 (And.intro @q6 @q7)));refine ih _ _ ⟨k+1,by omega,by exact sf,by exact sf,by exact sf,by exact sf,hS⟩ ?_
        rw [hm];simp only [push_cast,↓reduceIte,zq1,zq2,zq3,zq4,zq5,toN_i,q0,q5,q6,q7];omega
    · (have fct:=(And.intro @q0 (And.intro @q5 (And.intro @q6 @q7)));repeat' (first|((with_reducible apply G.a);exact rfl)|refine G.reg fun K hK=>?_|(with_reducible (refine hK _ _ ?_);clear hK K)|(have hk:=hK;clear hk;simp (disch:=first|exact dis|fail) only [push_cast,↓reduceIte,zq1,zq2,zq3,zq4,zq5,fct])|(refine G.cn ?_ ?_<;>intro hc<;>first|(with_reducible exact False.elim hc)|(exfalso;omega)|skip)))<;>(try clear fct)
      all_goals
        (have fct:=(And.intro @q0 (And.intro @q5 (And.intro @q6 @q7)));(first|refine G.r1 ?_|refine G.r2 ?_|refine G.r3 ?_|refine G.r0 ?_|refine G.d0 ?_);(try simp (disch:=first|exact dis|fail) only [push_cast,↓reduceIte,zq1,zq2,zq3,zq4,zq5,fct]);(try clear fct))
        exact ⟨by rw [hl],Sep.xt (by assumption)⟩
theorem oneI_z (k:Nat):oneI (decide ((k:Int)=0))=oneI (true && decide (k=0)):=by congr 1;simp
def c25l1:MC:=(.seq (.seq (.reg [qm 7 6,qm 8 1,qq 9 (.call 41 [(.tmp 8)]),qq 10 (.bin .lss (.tmp 7) (.tmp 9))]) (.cond (.tmp 10) .skip (.exit 0))) (.seq (.blk 1 (.drg [qm 13 5,qq 14 (.ld (.some 3) (.tmp 2)),qm 15 1,qm 16 6,qq 17 (.adr 1 (.tmp 15) (.tmp 16)),qq 18 (.ld none (.tmp 17)),qm 19 6,qq 20 (.bin .eql (.tmp 19) (ki 0)),qq 21 (.call 42 [(.tmp 20)]),qq 22 (.call 27 [(.tmp 14),(.tmp 18),(.tmp 21)]),qq 23 (.bin .add (.tmp 13) (.tmp 22)),qm 5 23] (.some (.br [qm 13 5,qm 15 1,qm 16 6,qq 17 (.adr 1 (.tmp 15) (.tmp 16)),qm 19 6,qq 20 (.bin .eql (.tmp 19) (ki 0))] (.br [qq 14 (.ld (.some 3) (.tmp 2))] (.leaf [qq 18 (.ld none (.tmp 17)),qq 21 (.call 42 [(.tmp 20)]),qq 22 (.call 27 [(.tmp 14),(.tmp 18),(.tmp 21)]),qq 23 (.bin .add (.tmp 13) (.tmp 22)),qm 5 23]) (.leaf [qq 21 (.call 42 [(.tmp 20)]),qq 18 (.ld none (.tmp 17)),qq 22 (.call 27 [(.tmp 14),(.tmp 18),(.tmp 21)]),qq 23 (.bin .add (.tmp 13) (.tmp 22)),qm 5 23])) (.br [] (.br [qq 18 (.ld none (.tmp 17))] (.leaf [qq 14 (.ld (.some 3) (.tmp 2)),qq 21 (.call 42 [(.tmp 20)]),qq 22 (.call 27 [(.tmp 14),(.tmp 18),(.tmp 21)]),qq 23 (.bin .add (.tmp 13) (.tmp 22)),qm 5 23]) (.leaf [qq 21 (.call 42 [(.tmp 20)]),qq 14 (.ld (.some 3) (.tmp 2)),qq 22 (.call 27 [(.tmp 14),(.tmp 18),(.tmp 21)]),qq 23 (.bin .add (.tmp 13) (.tmp 22)),qm 5 23])) (.br [qq 21 (.call 42 [(.tmp 20)])] (.leaf [qq 14 (.ld (.some 3) (.tmp 2)),qq 18 (.ld none (.tmp 17)),qq 22 (.call 27 [(.tmp 14),(.tmp 18),(.tmp 21)]),qq 23 (.bin .add (.tmp 13) (.tmp 22)),qm 5 23]) (.leaf [qq 18 (.ld none (.tmp 17)),qq 14 (.ld (.some 3) (.tmp 2)),qq 22 (.call 27 [(.tmp 14),(.tmp 18),(.tmp 21)]),qq 23 (.bin .add (.tmp 13) (.tmp 22)),qm 5 23]))))))) (.reg [qm 11 6,qq 12 (.bin .add (.tmp 11) (ki 1)),qm 6 12])))
def c25:MC:=(.seq (.reg [qq 2 (.raw (.box 44 (.tmp 0)) 0),qq 4 (.mv (.const (S [])))]) (.seq (.reg [qq 5 (.mv (.const (S [])))]) (.seq (.seq (.reg [qq 6 (.mv (ki 0))]) (.blk 0 (.loop c25l1))) (.seq (.reg [qm 24 5,qm 4 24]) .ret))))
theorem k25:conv Tryz.prog 25 (Tryz.f25.body.getD .skip)=c25:=by kernel_rfl
theorem in25 {a0 a1:Value} {w:World} {R:Value→World→Prop} (h:G Tryz.prog Tryz.f25 25 [.c c25] R (frL 0 [a0,a1]) w):Ret Tryz.prog 25 #[a0,a1] w R:=G.enter (args:=[a0,a1]) Tryz.func25 (c:=Tryz.f25.body.getD .skip) (by kernel_rfl) (by kernel_rfl) (by simp) k25 h
set_option maxHeartbeats 1000000 in
theorem rtext_spec (d:Dl) (hd:byD d) (hr:RdN w eS v t) (h:TabOK 1000 1000 t) (ht:t.length≤1000):Pu Tryz.prog 25 #[(.agg #[I d.dl,I d.q,I d.e]),v] w (S (txtF d true t)):=by
  have hr0:=hr
  obtain ⟨vs,hv,hl,hrow⟩:=hr
  refine in25 ?_
  have hS:=Sep.start w
  repeat' (first|((with_reducible apply G.a);exact rfl)|refine G.reg fun K hK=>?_|(with_reducible (refine hK _ _ ?_);clear hK K)|(with_reducible (refine hK _ ?_);clear hK K;intro wd hxd;have hS:=Sep.xx hxd)|((first|have hk:=hK|have hk:=hK2);clear hk;simp (disch:=first|exact dis|fail) only [push_cast,↓reduceIte,zq1,zq2,zq3,zq4,zq5,fct])|(((with_reducible refine gBox ?_);refine zbox ?_);intro gb wb hS)|(refine G.drt mixed fun K hK wd hxd=>?_;have hS:=Sep.xx hxd)|with_reducible refine OT_leaf ?_|(with_reducible (refine hK2 _ ?_);clear hK2 K2;intro wd hxd;have hS:=Sep.xx hxd)|with_reducible refine OT_br fun K2 hK2=>?_|(refine hK2 _ _ ?_ ?_<;>clear hK2 K2)|refine G.drg mixed fun K hK=>?_|(refine G.cn ?_ ?_<;>intro hc<;>first|(with_reducible exact False.elim hc)|(exfalso;omega)|skip))
  refine G.loop (fun r w'=>∃ k:Nat,k≤t.length∧r 1=v∧r 2=.pointer (some ⟨gb,0,none⟩)∧r 5=S (txtF d true (t.take k))∧r 6=I k∧Sep w w' [boxC gb 44 [I d.dl,I d.q,I d.e]]) (fun r _=>t.length - toN (r 6)) ?_ ?_
  · exact ⟨0,Nat.zero_le _,by exact sf,by exact sf,by exact sf,by exact sf,hS⟩
  · clear hS
    rintro u wl ⟨k,hk,q1,q2,q5,q6,hS⟩ ih
    have hm:toN (u 6)=k:=by rw [q6];simp [toN]
    have hf:∀ {w2:World},Ext w w2→RdN w2 eS v t:=fun {w2} hx=>⟨vs,hv.ext hx,hl,fun i hi=>(hrow i hi).ext hx⟩
    by_cases hlt:(k:Int) < t.length
    · obtain ⟨h1,h2,h3⟩:=h _ (getD_mem t k hlt)
      have hst:txtF d true (t.take (k+1))=txtF d true (t.take k)++lineM d (t.getD k default) (true && decide (k=0)):=by
        rw [takeD t k hlt,txtF_snoc,List.length_take,show min k t.length=k from by omega]
      have hb1:=txt_len d 1000 1000 (t.take k) true fun r hr=>(h r (List.mem_of_mem_take hr)).2
      have hb2:(lineM d (t.getD k default) (true && decide (k=0))).length≤3000000:=by
        have:=txt_len d 1000 1000 [t.getD k default] (true && decide (k=0)) fun r hr=>by rw [List.mem_singleton.1 hr];exact ⟨h2,h3⟩
        simp only [txtF,List.append_nil,List.length_cons,List.length_nil] at this
        omega
      have hb3:(t.take k).length≤1000:=by rw [List.length_take];omega
      have hb4:(txtF d true (t.take k)).length≤3000000000:=Nat.le_trans hb1 (by
        have:=Nat.mul_le_mul_right (1000 * (2 * 1000+3)+2) hb3
        omega)
      have hln:∀ {w2:World},Ext w w2→Pu Tryz.prog 27 #[(.agg #[I d.dl,I d.q,I d.e]),vs.getD k default,I (oneI (decide ((k:Int)=0)))] w2 (S (lineM d (t.getD k default) (true && decide (k=0)))):=fun {w2} hx=>by
        rw [oneI_z]
        exact rline10_spec d hd _ w2 ((hrow k hlt).ext hx) (fun f hf=>Nat.le_trans (h3 f hf) (by decide)) (by omega)
      have hib:((k:Int) == 0)=decide ((k:Int)=0):=rfl
      generalize lineM d (t.getD k default) (true && decide (k=0))=ln at *
      generalize txtF d true (t.take k)=tx at *
      (have fct:=(And.intro @q1 (And.intro @q2 (And.intro @q5 (And.intro @q6 @hib))));repeat' (first|((with_reducible apply G.a);exact rfl)|refine G.reg fun K hK=>?_|(with_reducible (refine hK _ _ ?_);clear hK K)|(with_reducible (refine hK _ ?_);clear hK K;intro wd hxd;have hS:=Sep.xx hxd)|((first|have hk:=hK|have hk:=hK2);clear hk;simp (disch:=first|exact dis|fail) only [push_cast,↓reduceIte,zq1,zq2,zq3,zq4,zq5,fct])|(((with_reducible refine gBox ?_);refine zbox ?_);intro gb wb hS)|(refine zcp 41 (front_spec (hf (Sep.xt (by assumption))) h) ?_;intro wb hS)|(refine zcp 42 (one_spec (decide ((k:Int)=0)) _) ?_;intro wb hS)|(refine zcp 27 (hln (Sep.xt (by assumption))) ?_;intro wb hS)|(with_reducible refine And.intro (a:=OT _ _ _ _ _) (b:=OT _ _ _ _ _) ?_ ?_)|(refine G.drt mixed fun K hK wd hxd=>?_;have hS:=Sep.xx hxd)|with_reducible refine OT_leaf ?_|(with_reducible (refine hK2 _ ?_);clear hK2 K2;intro wd hxd;have hS:=Sep.xx hxd)|with_reducible refine OT_br fun K2 hK2=>?_|(refine hK2 _ _ ?_ ?_<;>clear hK2 K2)|refine G.drg mixed fun K hK=>?_|(refine G.cn ?_ ?_<;>intro hc<;>first|(with_reducible exact False.elim hc)|(exfalso;omega)|skip)))<;>(try clear fct)
      all_goals
        have fct:=(And.intro @q1 (And.intro @q2 (And.intro @q5 @q6)));refine ih _ _ ⟨k+1,by omega,by exact sf,by exact sf,by rw [hst];simp only [push_cast,↓reduceIte,zq1,zq2,zq3,zq4,zq5,q1,q2,q5,q6]<;>rfl,by exact sf,hS⟩ ?_
        rw [hm];simp only [push_cast,↓reduceIte,zq1,zq2,zq3,zq4,zq5,toN_i,q1,q2,q5,q6];omega
    · have ek:t.take k=t:=List.take_of_length_le (by omega)
      rw [ek] at q5
      (have fct:=(And.intro @q1 (And.intro @q2 (And.intro @q5 @q6)));repeat' (first|((with_reducible apply G.a);exact rfl)|refine G.reg fun K hK=>?_|(with_reducible (refine hK _ _ ?_);clear hK K)|(with_reducible (refine hK _ ?_);clear hK K;intro wd hxd;have hS:=Sep.xx hxd)|((first|have hk:=hK|have hk:=hK2);clear hk;simp (disch:=first|exact dis|fail) only [push_cast,↓reduceIte,zq1,zq2,zq3,zq4,zq5,fct])|(((with_reducible refine gBox ?_);refine zbox ?_);intro gb wb hS)|(refine zcp 41 (front_spec (hf (Sep.xt (by assumption))) h) ?_;intro wb hS)|(refine G.drt mixed fun K hK wd hxd=>?_;have hS:=Sep.xx hxd)|with_reducible refine OT_leaf ?_|(with_reducible (refine hK2 _ ?_);clear hK2 K2;intro wd hxd;have hS:=Sep.xx hxd)|with_reducible refine OT_br fun K2 hK2=>?_|(refine hK2 _ _ ?_ ?_<;>clear hK2 K2)|refine G.drg mixed fun K hK=>?_|(refine G.cn ?_ ?_<;>intro hc<;>first|(with_reducible exact False.elim hc)|(exfalso;omega)|skip)))<;>(try clear fct)
      all_goals
        (have fct:=(And.intro @q1 (And.intro @q2 (And.intro @q5 @q6)));(first|refine G.r1 ?_|refine G.r2 ?_|refine G.r3 ?_|refine G.r0 ?_|refine G.d0 ?_);(try simp (disch:=first|exact dis|fail) only [push_cast,↓reduceIte,zq1,zq2,zq3,zq4,zq5,fct]);(try clear fct))
        exact Sep.xt (by assumption)
end
end Go.Proofs.YtllanbmpacgigaaGreatDoor
