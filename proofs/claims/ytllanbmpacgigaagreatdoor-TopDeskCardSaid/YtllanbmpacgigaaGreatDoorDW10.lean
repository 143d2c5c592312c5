/- Texts of the proof, joined. -/
import Derived.Test.YtllanbmpacgigaaGreatDoorDP10
import Derived.Test.YtllanbmpacgigaaGreatDoorDV06
namespace Go.Proofs.YtllanbmpacgigaaGreatDoor
open Nat renaming reduceAdd→zq1,reduceLeDiff→zq2,reduceEqDiff→zq3,reduceLT→zq4
open Int renaming reduceToNat→zq5
set_option linter.unusedSimpArgs false
set_option linter.unusedVariables false
attribute [local irreducible] SemK UnitK StK AlcK BslK CallK CallV Instr.box Builtin.append_ Instr.makeSlice Instr.makeMap Instr.lookup Instr.mapUpdate Instr.sliceAt convert
open Go.RowKit
section
variable {w:World}
def c201:MC:=(.seq (.reg [qq 4 (.mv (ki 0))]) (.seq (.reg [qm 5 0,qm 6 1,qq 7 (.call 133 [(.tmp 5),(.tmp 6)]),qm 4 7]) .ret))
theorem k201:conv Tryz.prog 8 (Tryz.f201.body.getD .skip)=c201:=by kernel_rfl
theorem in201 {a0 a1:Value} {w:World} {R:Value→World→Prop} (h:G Tryz.prog Tryz.f201 8 [.c c201] R (frL 0 [a0,a1]) w):Ret Tryz.prog 201 #[a0,a1] w R:=G.enter (args:=[a0,a1]) Tryz.func201 (c:=Tryz.f201.body.getD .skip) (by kernel_rfl) (by kernel_rfl) (by simp) k201 h
theorem ib_spec (f:Str) (c:UInt8) (n:Int) (hn:(c.toNat:Int)=n) (w:World):Pu Tryz.prog 201 #[S f,U n] w (I (Lib.indexByte f c)):=by
  refine in201 ?_
  have hS:=Sep.start w
  repeat' (first|((with_reducible apply G.a);exact rfl)|refine G.reg fun K hK=>?_|(with_reducible (refine hK _ _ ?_);clear hK K)|(have hk:=hK;clear hk;simp (disch:=first|exact dis|fail) only [push_cast,↓reduceIte,zq1,zq2,zq3,zq4,zq5,fct])|(refine zcp 133 (ib1_spec f c _ hn _) ?_;intro wb hS))
  (first|refine G.r1 ?_|refine G.r2 ?_|refine G.r3 ?_|refine G.r0 ?_|refine G.d0 ?_);(try simp (disch:=first|exact dis|fail) only [push_cast,↓reduceIte,zq1,zq2,zq3,zq4,zq5,fct])
  exact Sep.xt (by assumption)
def c179:MC:=(.seq (.reg [qq 4 (.raw (.box 39 (.tmp 0)) 0),qq 8 (.mv (ki 0))]) (.seq (.blk 0 (.seq (.reg [qm 10 1,qq 11 (.fad 0 (.tmp 4)),qq 12 (.ld none (.tmp 11)),qq 13 (.call 201 [(.tmp 10),(.tmp 12)]),qq 14 (.bin .geq (.tmp 13) (ki 0)),qm 9 14]) (.cond (.tmp 9) (.seq (.reg [qq 8 (.mv (ki 1))]) .ret) (.seq (.reg [qm 16 1,qq 17 (.fad 1 (.tmp 4)),qq 18 (.ld none (.tmp 17)),qq 19 (.call 201 [(.tmp 16),(.tmp 18)]),qq 20 (.bin .geq (.tmp 19) (ki 0)),qm 15 20]) (.cond (.tmp 15) (.seq (.reg [qq 8 (.mv (ki 2))]) .ret) (.seq (.reg [qm 22 1,qq 23 (.call 201 [(.tmp 22),(.const (.int .u8 13))]),qq 24 (.bin .geq (.tmp 23) (ki 0)),qm 25 24,qmf 25 26 1,qf 25 27 (.call 201 [(.tmp 26),(.const (.int .u8 10))]),qf 25 28 (.bin .geq (.tmp 27) (ki 0)),qq 29 (.pick (.tmp 25) (kb true) (.tmp 28)),qm 21 29]) (.cond (.tmp 21) (.seq (.reg [qq 8 (.mv (ki 3))]) .ret) (.seq (.reg [qm 31 1,qq 32 (.bin .eql (.tmp 31) (.const (S []))),qm 33 32,qmt 33 34 2,qq 35 (.pick (.tmp 33) (.tmp 34) (kb false)),qm 30 35]) (.cond (.tmp 30) (.seq (.reg [qq 8 (.mv (ki 4))]) .ret) (.seq (.reg [qm 37 3,qm 38 37,qmt 38 39 1,qt 38 40 (.call 116 [(.tmp 39),(.const (S [239,187,191]))]),qq 41 (.pick (.tmp 38) (.tmp 40) (kb false)),qm 36 41]) (.cond (.tmp 36) (.seq (.reg [qq 8 (.mv (ki 5))]) .ret) .skip))))))))))) (.seq (.reg [qq 8 (.mv (ki 0))]) .ret)))
theorem k179:conv Tryz.prog 42 (Tryz.f179.body.getD .skip)=c179:=by kernel_rfl
theorem in179 {a0 a1 a2 a3:Value} {w:World} {R:Value→World→Prop} (h:G Tryz.prog Tryz.f179 42 [.c c179] R (frL 0 [a0,a1,a2,a3]) w):Ret Tryz.prog 179 #[a0,a1,a2,a3] w R:=G.enter (args:=[a0,a1,a2,a3]) Tryz.func179 (c:=Tryz.f179.body.getD .skip) (by kernel_rfl) (by kernel_rfl) (by simp) k179 h
set_option maxHeartbeats 1000000 in
set_option maxRecDepth 8000 in
theorem why_spec (d:Dl) (hd:byD d) (f:Str) (a b:Bool) (w:World) (hl:f.length≤1000000000):Pu Tryz.prog 179 #[(.agg #[U d.dl,U d.q,I d.e]),S f,.bool a,.bool b] w (I (whyM d f a b)):=by
  refine in179 ?_
  have hS:=Sep.start w
  obtain ⟨d0,d1,d2,d3⟩:=hd
  have i1:=idx_has f (bD d)
  have i2:=idx_has f (bQ d)
  have i3:=idx_has f 13
  have i4:=idx_has f 10
  (have fct:=(And.intro @i1 (And.intro @i2 (And.intro @i3 @i4)));repeat' (first|((with_reducible apply G.a);exact rfl)|refine G.reg fun K hK=>?_|(with_reducible (refine hK _ _ ?_);clear hK K)|(have hk:=hK;clear hk;simp (disch:=first|exact dis|fail) only [push_cast,↓reduceIte,zq1,zq2,zq3,zq4,zq5,fct])|(refine brO_n ?_ ?_<;>intro hb hc<;>first|(with_reducible exact False.elim hc)|(exfalso;omega)|(simp only [hb];clear hb))|(((with_reducible refine gBox ?_);refine zbox ?_);intro gb wb hS)|((with_reducible (show CallK _ 201 [_,U d.dl] _ _ _ _));refine zcp 201 (ib_spec f (bD d) _ (byte_of ⟨d0,d1⟩) _) ?_;intro wb hS)|((with_reducible (show CallK _ 201 [_,U d.q] _ _ _ _));refine zcp 201 (ib_spec f (bQ d) _ (byte_of ⟨d2,d3⟩) _) ?_;intro wb hS)|((with_reducible (show CallK _ 201 [_,U 13] _ _ _ _));refine zcp 201 (ib_spec f 13 _ (by decide) _) ?_;intro wb hS)|((with_reducible (show CallK _ 201 [_,U 10] _ _ _ _));refine zcp 201 (ib_spec f 10 _ (by decide) _) ?_;intro wb hS)|(refine zcp 116 (shp_spec f _ _ hl (by decide)) ?_;intro wb hS)|(refine G.cn ?_ ?_<;>intro hc<;>first|(with_reducible exact False.elim hc)|(exfalso;omega)|skip)))<;>(try clear fct)
  all_goals
    (first|refine G.r1 ?_|refine G.r2 ?_|refine G.r3 ?_|refine G.r0 ?_|refine G.d0 ?_);(try simp (disch:=first|exact dis|fail) only [push_cast,↓reduceIte,zq1,zq2,zq3,zq4,zq5,fct])
    exact ⟨by clear hS;simp_all [whyM],Sep.xt (by assumption)⟩
end
end Go.Proofs.YtllanbmpacgigaaGreatDoor
namespace Go.Proofs.YtllanbmpacgigaaGreatDoor
open Nat renaming reduceAdd→zq1,reduceLeDiff→zq2,reduceEqDiff→zq3,reduceLT→zq4
open Int renaming reduceToNat→zq5
set_option linter.unusedSimpArgs false
set_option linter.unusedVariables false
attribute [local irreducible] SemK UnitK StK AlcK BslK CallK CallV Instr.box Builtin.append_ Instr.makeSlice Instr.makeMap Instr.lookup Instr.mapUpdate Instr.sliceAt convert
open Go.RowKit
section
variable {w:World}
def c143:MC:=(.seq (.reg [qq 4 (.raw (.box 39 (.tmp 0)) 0),qq 8 (.mv (kb false))]) (.seq (.reg [qq 9 (.ld (.some 3) (.tmp 4)),qm 10 1,qm 11 2,qm 12 3,qq 13 (.call 179 [(.tmp 9),(.tmp 10),(.tmp 11),(.tmp 12)]),qq 14 (.bin .neq (.tmp 13) (ki 0)),qm 8 14]) .ret))
theorem k143:conv Tryz.prog 15 (Tryz.f143.body.getD .skip)=c143:=by kernel_rfl
theorem in143 {a0 a1 a2 a3:Value} {w:World} {R:Value→World→Prop} (h:G Tryz.prog Tryz.f143 15 [.c c143] R (frL 0 [a0,a1,a2,a3]) w):Ret Tryz.prog 143 #[a0,a1,a2,a3] w R:=G.enter (args:=[a0,a1,a2,a3]) Tryz.func143 (c:=Tryz.f143.body.getD .skip) (by kernel_rfl) (by kernel_rfl) (by simp) k143 h
theorem need_spec (d:Dl) (hd:byD d) (f:Str) (a b:Bool) (w:World) (hl:f.length≤1000000000):Pu Tryz.prog 143 #[(.agg #[U d.dl,U d.q,I d.e]),S f,.bool a,.bool b] w (.bool (decide (0 < whyM d f a b))):=by
  refine in143 ?_
  have hS:=Sep.start w
  have hp:=whyM_pos d f a b
  repeat' (first|((with_reducible apply G.a);exact rfl)|refine G.reg fun K hK=>?_|(with_reducible (refine hK _ _ ?_);clear hK K)|(have hk:=hK;clear hk;simp (disch:=first|exact dis|fail) only [push_cast,↓reduceIte,zq1,zq2,zq3,zq4,zq5,fct])|(((with_reducible refine gBox ?_);refine zbox ?_);intro gb wb hS)|(refine zcp 179 (why_spec d hd f a b _ hl) ?_;intro wb hS))
  all_goals
    (first|refine G.r1 ?_|refine G.r2 ?_|refine G.r3 ?_|refine G.r0 ?_|refine G.d0 ?_);(try simp (disch:=first|exact dis|fail) only [push_cast,↓reduceIte,zq1,zq2,zq3,zq4,zq5,fct])
    exact ⟨by congr 1;apply Bool.eq_iff_iff.2;simp;omega,Sep.xt (by assumption)⟩
theorem bwbI_spec {g:Nat} {xs:Str} {L R:List Chk} {w w0:World} {n:Int} (c:UInt8) (hn:(c.toNat:Int)=n) (hS:Sep w0 w L) (he:Ex (bldC g 67 5 xs) L R) (hl:xs.length≤1000000000000) :
    Ret Tryz.prog 35 #[.pointer (some ⟨g,0,none⟩),U n] w fun res w'=>res=.nilIface∧Sep w0 w' (bldC g 67 5 (xs++[c]) :: R):=by
  subst hn;exact bwb_spec c hS he hl
theorem u8_ofI {b c:UInt8} {n:Int} (hc:(c.toNat:Int)=n) (h:(b.toNat:Int)=n):b=c:=UInt8.toNat_inj.1 (by omega)
theorem quoB_snoc0 (q:UInt8) (f:Str) (k:Nat) (hk:(k:Int) < f.length):(f.take (k+1)).flatMap (quoB q)=(f.take k).flatMap (quoB q)++quoB q (f.getD k 0):=quoB_snoc q f k hk
def c144l1:MC:=(.seq (.reg [qq 13 (.bin .lss (.tmp 12) (.tmp 11))]) (.seq (.cond (.tmp 13) .skip (.exit 0)) (.seq (.blk 1 (.seq (.reg [qm 14 12,qm 6 14]) (.seq (.seq (.drg [qm 15 1,qm 16 6,qq 17 (.idxS (.tmp 15) (.tmp 16)),qq 18 (.fad 1 (.tmp 2)),qq 19 (.ld none (.tmp 18)),qq 20 (.bin .eql (.tmp 17) (.tmp 19))] none) (.cond (.tmp 20) (.reg [qq 21 (.fad 1 (.tmp 2)),qq 22 (.ld none (.tmp 21)),qq 23 (.call 35 [(.tmp 5),(.tmp 22)])]) .skip)) (.reg [qm 24 1,qm 25 6,qq 26 (.idxS (.tmp 24) (.tmp 25)),qq 27 (.call 35 [(.tmp 5),(.tmp 26)])])))) (.reg [qq 28 (.bin .add (.tmp 12) (ki 1)),qm 12 28]))))
def c144:MC:=(.seq (.reg [qq 2 (.raw (.box 39 (.tmp 0)) 0),qq 4 (.mv (.const (S [])))]) (.seq (.reg [qq 5 (.alc 67 [(.pointer none),(.slice none 0 0)])]) (.seq (.reg [qq 7 (.fad 1 (.tmp 2)),qq 8 (.ld none (.tmp 7)),qq 9 (.call 35 [(.tmp 5),(.tmp 8)])]) (.seq (.seq (.reg [qm 10 1,qq 11 (.lenS (.tmp 10)),qq 12 (.mv (ki 0))]) (.blk 0 (.loop c144l1))) (.seq (.reg [qq 29 (.fad 1 (.tmp 2)),qq 30 (.ld none (.tmp 29)),qq 31 (.call 35 [(.tmp 5),(.tmp 30)])]) (.seq (.reg [qq 32 (.call 36 [(.tmp 5)]),qm 4 32]) .ret))))))
theorem k144:conv Tryz.prog 33 (Tryz.f144.body.getD .skip)=c144:=by kernel_rfl
theorem in144 {a0 a1:Value} {w:World} {R:Value→World→Prop} (h:G Tryz.prog Tryz.f144 33 [.c c144] R (frL 0 [a0,a1]) w):Ret Tryz.prog 144 #[a0,a1] w R:=G.enter (args:=[a0,a1]) Tryz.func144 (c:=Tryz.f144.body.getD .skip) (by kernel_rfl) (by kernel_rfl) (by simp) k144 h
theorem quoted_spec (d:Dl) (hd:byD d) (f:Str) (w:World) (hl:f.length≤1000000000):Pu Tryz.prog 144 #[(.agg #[U d.dl,U d.q,I d.e]),S f] w (S (quoM d f)):=by
  refine in144 ?_
  have hS:=Sep.start w
  have hq:((bQ d).toNat:Int)=d.q:=byte_of ⟨hd.2.2.1,hd.2.2.2⟩
  have hql:=quoB_len (bQ d)
  repeat' (first|((with_reducible apply G.a);exact rfl)|refine G.reg fun K hK=>?_|(with_reducible (refine hK _ _ ?_);clear hK K)|(with_reducible (refine hK _ ?_);clear hK K;intro wd hxd;have hS:=Sep.xx hxd)|(have hk:=hK;clear hk;simp (disch:=first|exact dis|fail) only [push_cast,↓reduceIte,zq1,zq2,zq3,zq4,zq5,fct])|((first|refine zalc ?_|((with_reducible refine gBox ?_);refine zbox ?_));intro gb wb hS)|(have hS:=hS.newB 5;((with_reducible (show CallK _ 35 _ _ _ _ _));refine zco 35 (bwbI_spec (bQ d) hq hS (by repeat constructor) (by first|omega|(simp only [lens];omega))) ?_;rintro vb wb ⟨rfl,hS⟩))|refine G.drg mixed fun K hK=>?_|(refine G.cn ?_ ?_<;>intro hc<;>first|(with_reducible exact False.elim hc)|(exfalso;omega)|skip))
  refine G.loop (fun r w'=>∃ (k g2 gB:Nat),k≤f.length∧r 1=S f∧r 2=.pointer (some ⟨g2,0,none⟩)∧r 5=.pointer (some ⟨gB,0,none⟩)∧r 11=I f.length∧r 12=I k∧Sep w w' [bldC gB 67 5 (bQ d :: (f.take k).flatMap (quoB (bQ d))),boxC g2 39 [U d.dl,U d.q,I d.e]]) (fun r _=>f.length - toN (r 12)) ?_ ?_
  · exact ⟨0,_,_,Nat.zero_le _,by exact sf,by exact sf,by exact sf,by exact sf,by exact sf,(Sep.sub hS (by repeat first|exact Sub.rfl'|exact Sub.n|(refine Sub.c (by repeat constructor) ?_)|refine Sub.skip ?_))⟩
  · clear hS
    rintro u wl ⟨k,g2,gB,hk,q1,q2,q5,q11,q12,hS⟩ ih
    have hm:toN (u 12)=k:=by rw [q12];simp [toN]
    have hqk:=hql (f.take k)
    have htk:(f.take k).length≤k:=by rw [List.length_take];omega
    by_cases hkk:(k:Int) < f.length
    · have hsn:=quoB_snoc0 (bQ d) f k hkk
      by_cases hcq:((f.getD k 0).toNat:Int)=d.q
      · have hfc:=u8_ofI hq hcq
        have hqb:quoB (bQ d) (f.getD k 0)=[bQ d]++[f.getD k 0]:=by rw [hfc];simp [quoB]
        rw [hqb] at hsn
        (have fct:=(And.intro @q1 (And.intro @q2 (And.intro @q5 (And.intro @q11 @q12))));repeat' (first|((with_reducible apply G.a);exact rfl)|refine G.reg fun K hK=>?_|(with_reducible (refine hK _ _ ?_);clear hK K)|(with_reducible (refine hK _ ?_);clear hK K;intro wd hxd;have hS:=Sep.xx hxd)|(have hk:=hK;clear hk;simp (disch:=first|exact dis|fail) only [push_cast,↓reduceIte,zq1,zq2,zq3,zq4,zq5,fct])|((first|refine zalc ?_|((with_reducible refine gBox ?_);refine zbox ?_));intro gb wb hS)|((with_reducible (show CallK _ 35 _ _ _ _ _));refine zco 35 (bwbI_spec (bQ d) hq hS (by repeat constructor) (by first|omega|(simp only [lens];omega))) ?_;rintro vb wb ⟨rfl,hS⟩)|((with_reducible (show CallK _ 35 _ _ _ _ _));refine zco 35 (bwbI_spec (f.getD k 0) rfl hS (by repeat constructor) (by first|omega|(simp only [lens];omega))) ?_;rintro vb wb ⟨rfl,hS⟩)|refine G.drg mixed fun K hK=>?_|(refine G.cn ?_ ?_<;>intro hc<;>first|(with_reducible exact False.elim hc)|(exfalso;omega)|skip)))<;>(try clear fct)
        all_goals
          rw [List.cons_append,List.cons_append,List.append_assoc,←hsn] at hS
          have fct:=(And.intro @q1 (And.intro @q2 (And.intro @q5 (And.intro @q11 @q12))));refine ih _ _ ⟨k+1,g2,gB,by omega,by exact sf,by exact sf,by exact sf,by exact sf,by exact sf,(Sep.sub hS (by repeat first|exact Sub.rfl'|exact Sub.n|(refine Sub.c (by repeat constructor) ?_)|refine Sub.skip ?_))⟩ ?_
          rw [hm];simp only [push_cast,↓reduceIte,zq1,zq2,zq3,zq4,zq5,toN_i,q1,q2,q5,q11,q12];omega
      · have hfc:¬ f.getD k 0=bQ d:=fun e=>hcq (by rw [e];exact hq)
        have hqb:quoB (bQ d) (f.getD k 0)=[f.getD k 0]:=by simp only [quoB,if_neg hfc]
        rw [hqb] at hsn
        (have fct:=(And.intro @q1 (And.intro @q2 (And.intro @q5 (And.intro @q11 @q12))));repeat' (first|((with_reducible apply G.a);exact rfl)|refine G.reg fun K hK=>?_|(with_reducible (refine hK _ _ ?_);clear hK K)|(with_reducible (refine hK _ ?_);clear hK K;intro wd hxd;have hS:=Sep.xx hxd)|(have hk:=hK;clear hk;simp (disch:=first|exact dis|fail) only [push_cast,↓reduceIte,zq1,zq2,zq3,zq4,zq5,fct])|((first|refine zalc ?_|((with_reducible refine gBox ?_);refine zbox ?_));intro gb wb hS)|((with_reducible (show CallK _ 35 _ _ _ _ _));refine zco 35 (bwbI_spec (f.getD k 0) rfl hS (by repeat constructor) (by first|omega|(simp only [lens];omega))) ?_;rintro vb wb ⟨rfl,hS⟩)|refine G.drg mixed fun K hK=>?_|(refine G.cn ?_ ?_<;>intro hc<;>first|(with_reducible exact False.elim hc)|(exfalso;omega)|skip)))<;>(try clear fct)
        all_goals
          rw [List.cons_append,←hsn] at hS
          have fct:=(And.intro @q1 (And.intro @q2 (And.intro @q5 (And.intro @q11 @q12))));refine ih _ _ ⟨k+1,g2,gB,by omega,by exact sf,by exact sf,by exact sf,by exact sf,by exact sf,(Sep.sub hS (by repeat first|exact Sub.rfl'|exact Sub.n|(refine Sub.c (by repeat constructor) ?_)|refine Sub.skip ?_))⟩ ?_
          rw [hm];simp only [push_cast,↓reduceIte,zq1,zq2,zq3,zq4,zq5,toN_i,q1,q2,q5,q11,q12];omega
    · have hta:f.take k=f:=List.take_of_length_le (by omega)
      rw [hta] at hS hqk
      (have fct:=(And.intro @q1 (And.intro @q2 (And.intro @q5 (And.intro @q11 @q12))));repeat' (first|((with_reducible apply G.a);exact rfl)|refine G.reg fun K hK=>?_|(with_reducible (refine hK _ _ ?_);clear hK K)|(with_reducible (refine hK _ ?_);clear hK K;intro wd hxd;have hS:=Sep.xx hxd)|(have hk:=hK;clear hk;simp (disch:=first|exact dis|fail) only [push_cast,↓reduceIte,zq1,zq2,zq3,zq4,zq5,fct])|((first|refine zalc ?_|((with_reducible refine gBox ?_);refine zbox ?_));intro gb wb hS)|((with_reducible (show CallK _ 35 _ _ _ _ _));refine zco 35 (bwbI_spec (bQ d) hq hS (by repeat constructor) (by first|omega|(simp only [lens];omega))) ?_;rintro vb wb ⟨rfl,hS⟩)|((with_reducible (show CallK _ 36 _ _ _ _ _));refine zco 36 (bst_spec hS (by repeat constructor)) ?_;rintro vb wb ⟨rfl,hS⟩)|refine G.drg mixed fun K hK=>?_|(refine G.cn ?_ ?_<;>intro hc<;>first|(with_reducible exact False.elim hc)|(exfalso;omega)|skip)))<;>(try clear fct)
      all_goals
        (have fct:=(And.intro @q1 (And.intro @q2 (And.intro @q5 (And.intro @q11 @q12))));(first|refine G.r1 ?_|refine G.r2 ?_|refine G.r3 ?_|refine G.r0 ?_|refine G.d0 ?_);(try simp (disch:=first|exact dis|fail) only [push_cast,↓reduceIte,zq1,zq2,zq3,zq4,zq5,fct]);(try clear fct))
        exact ⟨rfl,Sep.xt (by assumption)⟩
def c105:MC:=(.seq (.reg [qq 4 (.raw (.box 39 (.tmp 0)) 0),qq 8 (.mv (.const (S [])))]) (.seq (.seq (.reg [qq 9 (.ld (.some 3) (.tmp 4)),qm 10 1,qm 11 2,qm 12 3,qq 13 (.call 143 [(.tmp 9),(.tmp 10),(.tmp 11),(.tmp 12)])]) (.cond (.tmp 13) (.seq (.reg [qq 14 (.ld (.some 3) (.tmp 4)),qm 15 1,qq 16 (.call 144 [(.tmp 14),(.tmp 15)]),qm 8 16]) .ret) .skip)) (.seq (.reg [qm 17 1,qm 8 17]) .ret)))
theorem k105:conv Tryz.prog 18 (Tryz.f105.body.getD .skip)=c105:=by kernel_rfl
theorem in105 {a0 a1 a2 a3:Value} {w:World} {R:Value→World→Prop} (h:G Tryz.prog Tryz.f105 18 [.c c105] R (frL 0 [a0,a1,a2,a3]) w):Ret Tryz.prog 105 #[a0,a1,a2,a3] w R:=G.enter (args:=[a0,a1,a2,a3]) Tryz.func105 (c:=Tryz.f105.body.getD .skip) (by kernel_rfl) (by kernel_rfl) (by simp) k105 h
theorem written_spec (d:Dl) (hd:byD d) (f:Str) (a b:Bool) (w:World) (hl:f.length≤1000000000):Pu Tryz.prog 105 #[(.agg #[U d.dl,U d.q,I d.e]),S f,.bool a,.bool b] w (S (wrM d f a b)):=by
  refine in105 ?_
  have hS:=Sep.start w
  unfold wrM
  by_cases h:0 < whyM d f a b
  · rw [if_pos h]
    repeat' (first|((with_reducible apply G.a);exact rfl)|refine G.reg fun K hK=>?_|(with_reducible (refine hK _ _ ?_);clear hK K)|(have hk:=hK;clear hk;simp (disch:=first|exact dis|fail) only [push_cast,↓reduceIte,zq1,zq2,zq3,zq4,zq5,fct])|(((with_reducible refine gBox ?_);refine zbox ?_);intro gb wb hS)|(refine zcp 143 (need_spec d hd f a b _ hl) ?_;intro wb hS)|(refine zcp 144 (quoted_spec d hd f _ hl) ?_;intro wb hS)|(refine G.cn ?_ ?_<;>intro hc<;>first|(with_reducible exact False.elim hc)|(exfalso;omega)|skip))
    all_goals
      (first|refine G.r1 ?_|refine G.r2 ?_|refine G.r3 ?_|refine G.r0 ?_|refine G.d0 ?_);(try simp (disch:=first|exact dis|fail) only [push_cast,↓reduceIte,zq1,zq2,zq3,zq4,zq5,fct])
      exact Sep.xt (by assumption)
  · rw [if_neg h]
    repeat' (first|((with_reducible apply G.a);exact rfl)|refine G.reg fun K hK=>?_|(with_reducible (refine hK _ _ ?_);clear hK K)|(have hk:=hK;clear hk;simp (disch:=first|exact dis|fail) only [push_cast,↓reduceIte,zq1,zq2,zq3,zq4,zq5,fct])|(((with_reducible refine gBox ?_);refine zbox ?_);intro gb wb hS)|(refine zcp 143 (need_spec d hd f a b _ hl) ?_;intro wb hS)|(refine zcp 144 (quoted_spec d hd f _ hl) ?_;intro wb hS)|(refine G.cn ?_ ?_<;>intro hc<;>first|(with_reducible exact False.elim hc)|(exfalso;omega)|skip))
    all_goals
      (first|refine G.r1 ?_|refine G.r2 ?_|refine G.r3 ?_|refine G.r0 ?_|refine G.d0 ?_);(try simp (disch:=first|exact dis|fail) only [push_cast,↓reduceIte,zq1,zq2,zq3,zq4,zq5,fct])
      exact Sep.xt (by assumption)
def c71:MC:=(.seq (.reg [qq 1 (.raw (.box 39 (.tmp 0)) 0),qq 2 (.mv (.const (S [])))]) (.seq (.blk 0 (.seq (.reg [qq 4 (.ld (.some 3) (.tmp 1)),qq 5 (.call 85 [(.tmp 4)]),qq 6 (.bin .neq (.tmp 5) (ki 0)),qm 3 6]) (.cond (.tmp 3) (.seq (.reg [qq 2 (.mv (.const (S [])))]) .ret) (.seq (.reg [qq 8 (.fad 2 (.tmp 1)),qq 9 (.ld none (.tmp 8)),qq 10 (.bin .eql (.tmp 9) (ki 2)),qm 7 10]) (.cond (.tmp 7) (.seq (.reg [qq 2 (.mv (.const (S [13,10])))]) .ret) .skip))))) (.seq (.reg [qq 2 (.mv (.const (S [10])))]) .ret)))
theorem k71:conv Tryz.prog 11 (Tryz.f71.body.getD .skip)=c71:=by kernel_rfl
theorem in71 {a0:Value} {w:World} {R:Value→World→Prop} (h:G Tryz.prog Tryz.f71 11 [.c c71] R (frL 0 [a0]) w):Ret Tryz.prog 71 #[a0] w R:=G.enter (args:=[a0]) Tryz.func71 (c:=Tryz.f71.body.getD .skip) (by kernel_rfl) (by kernel_rfl) (by simp) k71 h
theorem dend_spec (d:Dl) (hr:rightD d=true) (w:World):Pu Tryz.prog 71 #[(.agg #[U d.dl,U d.q,I d.e])] w (S (endM d)):=by
  refine in71 ?_
  have hS:=Sep.start w
  unfold endM
  by_cases h:d.e=2
  · rw [if_pos h]
    (have fct:=@hr;repeat' (first|((with_reducible apply G.a);exact rfl)|refine G.reg fun K hK=>?_|(with_reducible (refine hK _ _ ?_);clear hK K)|(have hk:=hK;clear hk;simp (disch:=first|exact dis|fail) only [push_cast,↓reduceIte,zq1,zq2,zq3,zq4,zq5,fct])|(((with_reducible refine gBox ?_);refine zbox ?_);intro gb wb hS)|(refine zcp 85 (checkD_spec d _) ?_;intro wb hS)|(refine G.cn ?_ ?_<;>intro hc<;>first|(with_reducible exact False.elim hc)|(exfalso;omega)|skip)))<;>(try clear fct)
    all_goals
      (first|refine G.r1 ?_|refine G.r2 ?_|refine G.r3 ?_|refine G.r0 ?_|refine G.d0 ?_);(try simp (disch:=first|exact dis|fail) only [push_cast,↓reduceIte,zq1,zq2,zq3,zq4,zq5,fct])
      exact Sep.xt (by assumption)
  · rw [if_neg h]
    (have fct:=@hr;repeat' (first|((with_reducible apply G.a);exact rfl)|refine G.reg fun K hK=>?_|(with_reducible (refine hK _ _ ?_);clear hK K)|(have hk:=hK;clear hk;simp (disch:=first|exact dis|fail) only [push_cast,↓reduceIte,zq1,zq2,zq3,zq4,zq5,fct])|(((with_reducible refine gBox ?_);refine zbox ?_);intro gb wb hS)|(refine zcp 85 (checkD_spec d _) ?_;intro wb hS)|(refine G.cn ?_ ?_<;>intro hc<;>first|(with_reducible exact False.elim hc)|(exfalso;omega)|skip)))<;>(try clear fct)
    all_goals
      (first|refine G.r1 ?_|refine G.r2 ?_|refine G.r3 ?_|refine G.r0 ?_|refine G.d0 ?_);(try simp (disch:=first|exact dis|fail) only [push_cast,↓reduceIte,zq1,zq2,zq3,zq4,zq5,fct])
      exact Sep.xt (by assumption)
end
end Go.Proofs.YtllanbmpacgigaaGreatDoor
namespace Go.Proofs.YtllanbmpacgigaaGreatDoor
open Nat renaming reduceAdd→zq1,reduceLeDiff→zq2,reduceEqDiff→zq3,reduceLT→zq4
open Int renaming reduceToNat→zq5
set_option linter.unusedSimpArgs false
set_option linter.unusedVariables false
attribute [local irreducible] SemK UnitK StK AlcK BslK CallK CallV Instr.box Builtin.append_ Instr.makeSlice Instr.makeMap Instr.lookup Instr.mapUpdate Instr.sliceAt convert
open Go.RowKit
def oneI (b:Bool):Int:=if b=true then 1 else 0
def lineV (d:Dl) (r:List Str) (first:Bool):Value:=if rightD d=false then .tuple #[S [],I 1] else if mayR r=0 then .tuple #[S (lineM d r first),I 0] else .tuple #[S [],I (mayR r)]
section
variable {w:World} {v:Value} {r:List Str}
def c69l1:MC:=(.seq (.reg [qq 25 (.bin .lss (.tmp 24) (.tmp 23))]) (.seq (.cond (.tmp 25) .skip (.exit 0)) (.seq (.blk 1 (.seq (.reg [qq 26 (.adr 1 (.tmp 22) (.tmp 24)),qq 27 (.ld none (.tmp 26)),qm 10 27]) (.seq (.reg [qm 28 10,qq 29 (.call 104 [(.tmp 28)]),qq 30 (.un .not (.tmp 29))]) (.cond (.tmp 30) (.seq (.reg [qq 6 (.mv (.const (S []))),qq 7 (.mv (ki 14))]) .ret) .skip)))) (.reg [qq 31 (.bin .add (.tmp 24) (ki 1)),qm 24 31]))))
def c69l2:MC:=(.seq (.reg [qq 35 (.bin .lss (.tmp 34) (.tmp 33))]) (.seq (.cond (.tmp 35) .skip (.exit 2)) (.seq (.blk 3 (.seq (.reg [qm 36 34,qq 37 (.adr 1 (.tmp 32) (.tmp 34)),qq 38 (.ld none (.tmp 37)),qm 12 36,qm 13 38]) (.seq (.seq (.reg [qm 39 12,qq 40 (.bin .gtr (.tmp 39) (ki 0))]) (.cond (.tmp 40) (.reg [qq 41 (.fad 0 (.tmp 3)),qq 42 (.ld none (.tmp 41)),qq 43 (.call 35 [(.tmp 11),(.tmp 42)])]) .skip)) (.reg [qq 44 (.ld (.some 3) (.tmp 3)),qm 45 13,qm 46 1,qq 47 (.len (.tmp 46)),qq 48 (.bin .eql (.tmp 47) (ki 1)),qm 49 2,qm 50 49,qmt 50 51 12,qt 50 52 (.bin .eql (.tmp 51) (ki 0)),qq 53 (.pick (.tmp 50) (.tmp 52) (kb false)),qq 54 (.call 105 [(.tmp 44),(.tmp 45),(.tmp 48),(.tmp 53)]),qq 55 (.call 34 [(.tmp 11),(.tmp 54)])])))) (.reg [qq 56 (.bin .add (.tmp 34) (ki 1)),qm 34 56]))))
def c69:MC:=(.seq (.reg [qq 3 (.raw (.box 39 (.tmp 0)) 0),qq 6 (.mv (.const (S []))),qq 7 (.mv (ki 0))]) (.seq (.seq (.reg [qq 14 (.ld (.some 3) (.tmp 3)),qq 15 (.call 85 [(.tmp 14)]),qm 8 15]) (.seq (.reg [qm 16 8,qq 17 (.bin .neq (.tmp 16) (ki 0))]) (.cond (.tmp 17) (.seq (.reg [qm 18 8,qq 6 (.mv (.const (S []))),qm 7 18]) .ret) .skip))) (.seq (.seq (.reg [qm 19 1,qq 20 (.len (.tmp 19)),qq 21 (.bin .eql (.tmp 20) (ki 0))]) (.cond (.tmp 21) (.seq (.reg [qq 6 (.mv (.const (S []))),qq 7 (.mv (ki 13))]) .ret) .skip)) (.seq (.seq (.reg [qm 22 1,qq 23 (.len (.tmp 22)),qq 24 (.mv (ki 0))]) (.blk 0 (.loop c69l1))) (.seq (.reg [qq 11 (.alc 67 [(.pointer none),(.slice none 0 0)])]) (.seq (.seq (.reg [qm 32 1,qq 33 (.len (.tmp 32)),qq 34 (.mv (ki 0))]) (.blk 2 (.loop c69l2))) (.seq (.reg [qq 57 (.ld (.some 3) (.tmp 3)),qq 58 (.call 71 [(.tmp 57)]),qq 59 (.call 34 [(.tmp 11),(.tmp 58)])]) (.seq (.reg [qq 60 (.call 36 [(.tmp 11)]),qm 6 60,qq 7 (.mv (ki 0))]) .ret))))))))
theorem k69:conv Tryz.prog 61 (Tryz.f69.body.getD .skip)=c69:=by kernel_rfl
theorem in69 {a0 a1 a2:Value} {w:World} {R:Value→World→Prop} (h:G Tryz.prog Tryz.f69 61 [.c c69] R (frL 0 [a0,a1,a2]) w):Ret Tryz.prog 69 #[a0,a1,a2] w R:=G.enter (args:=[a0,a1,a2]) Tryz.func69 (c:=Tryz.f69.body.getD .skip) (by kernel_rfl) (by kernel_rfl) (by simp) k69 h
def wlineV (T:MC):MC:=match c69 with
  | .seq a (.seq b (.seq c (.seq d _)))=>.seq a (.seq b (.seq c (.seq d T)))
  | _=>.skip
def wlineT:MC:=match c69 with
  | .seq _ (.seq _ (.seq _ (.seq _ T)))=>T
  | _=>.skip
set_option maxHeartbeats 1000000 in
theorem wline_tail {n:Nat} {ρ:Fr} {w':World} {g3:Nat} (d:Dl) (hd:byD d) (hrt:rightD d=true) (first:Bool) (hr:Rd w eS v r) (hN:∀ f∈r,f.length≤1000000) (hl:r.length≤10000) (q1:ρ 1=v) (q2:ρ 2=.bool first) (q3:ρ 3=.pointer (some ⟨g3,0,none⟩)) (hS:Sep w w' [boxC g3 39 [U d.dl,U d.q,I d.e]]) :
    G Tryz.prog Tryz.f69 n [.c wlineT] (fun res w'=>res=.tuple #[S (lineM d r first),I 0]∧Ext w w') ρ w':=by
  unfold wlineT c69
  dsimp only
  have hb0:((bD d).toNat:Int)=d.dl:=byte_of ⟨hd.1,hd.2.1⟩
  (have fct:=(And.intro @q1 (And.intro @q2 @q3));repeat' (first|((with_reducible apply G.a);exact rfl)|refine G.reg fun K hK=>?_|(with_reducible (refine hK _ _ ?_);clear hK K)|(have hk:=hK;clear hk;simp (disch:=first|exact dis|fail) only [push_cast,↓reduceIte,zq1,zq2,zq3,zq4,zq5,fct])|(refine brO_n ?_ ?_<;>intro hb hc<;>first|(with_reducible exact False.elim hc)|(exfalso;omega)|(simp only [hb];clear hb))|((first|refine zalc ?_|((with_reducible refine gBox ?_);refine zbox ?_));intro gb wb hS)|(refine G.cn ?_ ?_<;>intro hc<;>first|(with_reducible exact False.elim hc)|(exfalso;omega)|skip)))<;>(try clear fct)
  have hS:=hS.newB 5
  refine G.loop (fun x w'=>∃ (k gB:Nat),k≤r.length∧x 1=v∧x 2=.bool first∧x 3=.pointer (some ⟨g3,0,none⟩)∧x 11=.pointer (some ⟨gB,0,none⟩)∧x 32=v∧x 33=I r.length∧x 34=I k∧Sep w w' [bldC gB 67 5 (lineF d r.length first 0 (r.take k)),boxC g3 39 [U d.dl,U d.q,I d.e]]) (fun x _=>r.length - toN (x 34)) ?_ ?_
  · exact ⟨0,_,Nat.zero_le _,by simp only [push_cast,↓reduceIte,zq1,zq2,zq3,zq4,zq5,q1],by simp only [push_cast,↓reduceIte,zq1,zq2,zq3,zq4,zq5,q2],by simp only [push_cast,↓reduceIte,zq1,zq2,zq3,zq4,zq5,q3],by simp only [push_cast,↓reduceIte,zq1,zq2,zq3,zq4,zq5]<;>rfl,by simp only [push_cast,↓reduceIte,zq1,zq2,zq3,zq4,zq5,q1],by simp only [push_cast,↓reduceIte,zq1,zq2,zq3,zq4,zq5],by simp only [push_cast,↓reduceIte,zq1,zq2,zq3,zq4,zq5]<;>rfl,hS⟩
  · clear hS q1 q2 q3
    rintro u wl ⟨k,gB,hk,q1,q2,q3,q11,q32,q33,q34,hS⟩ ih
    have hm:toN (u 34)=k:=by rw [q34];simp [toN]
    have hfl:=lineF_len d r.length first 1000000 (r.take k) 0 (fun f hf=>hN f (List.mem_of_mem_take hf))
    have htl:(r.take k).length≤10000:=by rw [List.length_take];omega
    have hfl2:(lineF d r.length first 0 (r.take k)).length≤20000030000:=Nat.le_trans hfl (Nat.le_trans (Nat.mul_le_mul_right _ htl) (by decide))
    clear hfl
    by_cases hkk:(k:Int) < r.length
    · have hst:=lineF_step d r.length first r k hkk
      have hfk:=hN _ (getD_mem r k hkk)
      have hwl:=fun a b=>wrM_len d (r.getD k default) a b
      have hn1:((r.length:Int) == 1)=decide (r.length=1):=by rw [Bool.eq_iff_iff];simp;omega
      by_cases hk0:k=0
      · subst hk0
        have hpc:pieceM d r.length first 0 (r.getD 0 default)=wrM d (r.getD 0 default) (decide (r.length=1)) first:=by simp [pieceM]
        have hwl2:=hwl (decide (r.length=1)) first
        rw [hpc] at hst
        cases first
        all_goals
          (have fct:=(And.intro @q1 (And.intro @q2 (And.intro @q3 (And.intro @q11 (And.intro @q32 (And.intro @q33 (And.intro @q34 @hn1)))))));repeat' (first|((with_reducible apply G.a);exact rfl)|refine G.reg fun K hK=>?_|(with_reducible (refine hK _ _ ?_);clear hK K)|(have hk:=hK;clear hk;simp (disch:=first|exact dis|fail) only [push_cast,↓reduceIte,zq1,zq2,zq3,zq4,zq5,fct])|(refine brO_n ?_ ?_<;>intro hb hc<;>first|(with_reducible exact False.elim hc)|(exfalso;omega)|(simp only [hb];clear hb))|((first|refine zalc ?_|((with_reducible refine gBox ?_);refine zbox ?_));intro gb wb hS)|(refine zcp 105 (written_spec d hd _ _ _ _ (by omega)) ?_;intro wb hS)|((with_reducible (show CallK _ 35 _ _ _ _ _));refine zco 35 (bwbI_spec (bD d) hb0 hS (by repeat constructor) (by first|omega|(simp only [lens];omega))) ?_;rintro vb wb ⟨rfl,hS⟩)|((with_reducible (show CallK _ 34 _ _ _ _ _));refine zco 34 (bws_spec hS (by repeat constructor) (by first|omega|(simp only [lens];omega)) (by first|omega|(simp only [lens];omega))) ?_;rintro vb wb ⟨rfl,hS⟩)|(refine G.cn ?_ ?_<;>intro hc<;>first|(with_reducible exact False.elim hc)|(exfalso;omega)|skip)))<;>(try clear fct)
          all_goals
            rw [←hst] at hS
            have fct:=(And.intro @q1 (And.intro @q2 (And.intro @q3 (And.intro @q11 (And.intro @q32 (And.intro @q33 @q34))))));refine ih _ _ ⟨0+1,gB,by omega,by exact sf,by exact sf,by exact sf,by exact sf,by exact sf,by exact sf,by exact sf,(Sep.sub hS (by repeat first|exact Sub.rfl'|exact Sub.n|(refine Sub.c (by repeat constructor) ?_)|refine Sub.skip ?_))⟩ ?_
            rw [hm];simp only [push_cast,↓reduceIte,zq1,zq2,zq3,zq4,zq5,toN_i,q1,q2,q3,q11,q32,q33,q34];omega
      · have hkb:((k:Int) == 0)=false:=by simp;omega
        have hpc:pieceM d r.length first k (r.getD k default)=[bD d]++wrM d (r.getD k default) (decide (r.length=1)) false:=by simp [pieceM,hk0,show 0 < k by omega]
        have hwl2:=hwl (decide (r.length=1)) false
        rw [hpc,←List.append_assoc] at hst
        cases first
        all_goals
          (have fct:=(And.intro @q1 (And.intro @q2 (And.intro @q3 (And.intro @q11 (And.intro @q32 (And.intro @q33 (And.intro @q34 (And.intro @hn1 @hkb))))))));repeat' (first|((with_reducible apply G.a);exact rfl)|refine G.reg fun K hK=>?_|(with_reducible (refine hK _ _ ?_);clear hK K)|(have hk:=hK;clear hk;simp (disch:=first|exact dis|fail) only [push_cast,↓reduceIte,zq1,zq2,zq3,zq4,zq5,fct])|(refine brO_n ?_ ?_<;>intro hb hc<;>first|(with_reducible exact False.elim hc)|(exfalso;omega)|(simp only [hb];clear hb))|((first|refine zalc ?_|((with_reducible refine gBox ?_);refine zbox ?_));intro gb wb hS)|(refine zcp 105 (written_spec d hd _ _ _ _ (by omega)) ?_;intro wb hS)|((with_reducible (show CallK _ 35 _ _ _ _ _));refine zco 35 (bwbI_spec (bD d) hb0 hS (by repeat constructor) (by first|omega|(simp only [lens];omega))) ?_;rintro vb wb ⟨rfl,hS⟩)|((with_reducible (show CallK _ 34 _ _ _ _ _));refine zco 34 (bws_spec hS (by repeat constructor) (by first|omega|(simp only [lens];omega)) (by first|omega|(simp only [lens];omega))) ?_;rintro vb wb ⟨rfl,hS⟩)|(refine G.cn ?_ ?_<;>intro hc<;>first|(with_reducible exact False.elim hc)|(exfalso;omega)|skip)))<;>(try clear fct)
          all_goals
            rw [←hst] at hS
            have fct:=(And.intro @q1 (And.intro @q2 (And.intro @q3 (And.intro @q11 (And.intro @q32 (And.intro @q33 @q34))))));refine ih _ _ ⟨k+1,gB,by omega,by exact sf,by exact sf,by exact sf,by exact sf,by exact sf,by exact sf,by exact sf,(Sep.sub hS (by repeat first|exact Sub.rfl'|exact Sub.n|(refine Sub.c (by repeat constructor) ?_)|refine Sub.skip ?_))⟩ ?_
            rw [hm];simp only [push_cast,↓reduceIte,zq1,zq2,zq3,zq4,zq5,toN_i,q1,q2,q3,q11,q32,q33,q34];omega
    · have hta:r.take k=r:=List.take_of_length_le (by omega)
      rw [hta] at hS hfl2
      have hel:(endM d).length≤2:=by unfold endM;split<;>simp
      (have fct:=(And.intro @q1 (And.intro @q2 (And.intro @q3 (And.intro @q11 (And.intro @q32 (And.intro @q33 @q34))))));repeat' (first|((with_reducible apply G.a);exact rfl)|refine G.reg fun K hK=>?_|(with_reducible (refine hK _ _ ?_);clear hK K)|(have hk:=hK;clear hk;simp (disch:=first|exact dis|fail) only [push_cast,↓reduceIte,zq1,zq2,zq3,zq4,zq5,fct])|(refine brO_n ?_ ?_<;>intro hb hc<;>first|(with_reducible exact False.elim hc)|(exfalso;omega)|(simp only [hb];clear hb))|((first|refine zalc ?_|((with_reducible refine gBox ?_);refine zbox ?_));intro gb wb hS)|(refine zcp 71 (dend_spec d hrt _) ?_;intro wb hS)|((with_reducible (show CallK _ 34 _ _ _ _ _));refine zco 34 (bws_spec hS (by repeat constructor) (by first|omega|(simp only [lens];omega)) (by first|omega|(simp only [lens];omega))) ?_;rintro vb wb ⟨rfl,hS⟩)|((with_reducible (show CallK _ 36 _ _ _ _ _));refine zco 36 (bst_spec hS (by repeat constructor)) ?_;rintro vb wb ⟨rfl,hS⟩)|(refine G.cn ?_ ?_<;>intro hc<;>first|(with_reducible exact False.elim hc)|(exfalso;omega)|skip)))<;>(try clear fct)
      all_goals
        (have fct:=(And.intro @q1 (And.intro @q2 (And.intro @q3 (And.intro @q11 (And.intro @q32 (And.intro @q33 @q34))))));(first|refine G.r1 ?_|refine G.r2 ?_|refine G.r3 ?_|refine G.r0 ?_|refine G.d0 ?_);(try simp (disch:=first|exact dis|fail) only [push_cast,↓reduceIte,zq1,zq2,zq3,zq4,zq5,fct]);(try clear fct))
        exact ⟨rfl,Sep.xt (by assumption)⟩
set_option maxHeartbeats 1000000 in
theorem wline_pre {n:Nat} {TT:MC} (d:Dl) (first:Bool) (w:World) (hr:Rd w eS v r) (hN:∀ f∈r,f.length≤1000000) (hl:r.length≤10000)
    (ht:∀ {ρ:Fr} {w':World} {g3:Nat},rightD d=true→mayR r=0→ρ 1=v→ρ 2=.bool first→ρ 3=.pointer (some ⟨g3,0,none⟩)→Sep w w' [boxC g3 39 [U d.dl,U d.q,I d.e]]→G Tryz.prog Tryz.f69 n [.c TT] (fun res w'=>res=lineV d r first∧Ext w w') ρ w') :
    G Tryz.prog Tryz.f69 n [.c (wlineV TT)] (fun res w'=>res=lineV d r first∧Ext w w') (frL 0 [(.agg #[U d.dl,U d.q,I d.e]),v,.bool first]) w:=by
  unfold wlineV c69
  dsimp only
  have hS:=Sep.start w
  cases hrt:rightD d
  · (have fct:=@hrt;repeat' (first|((with_reducible apply G.a);exact rfl)|refine G.reg fun K hK=>?_|(with_reducible (refine hK _ _ ?_);clear hK K)|(have hk:=hK;clear hk;simp (disch:=first|exact dis|fail) only [push_cast,↓reduceIte,zq1,zq2,zq3,zq4,zq5,fct])|(refine brO_n ?_ ?_<;>intro hb hc<;>first|(with_reducible exact False.elim hc)|(exfalso;omega)|(simp only [hb];clear hb))|((first|refine zalc ?_|((with_reducible refine gBox ?_);refine zbox ?_));intro gb wb hS)|(refine zcp 85 (checkD_spec d _) ?_;intro wb hS)|(refine G.cn ?_ ?_<;>intro hc<;>first|(with_reducible exact False.elim hc)|(exfalso;omega)|skip)))<;>(try clear fct)
    all_goals
      (first|refine G.r1 ?_|refine G.r2 ?_|refine G.r3 ?_|refine G.r0 ?_|refine G.d0 ?_);(try simp (disch:=first|exact dis|fail) only [push_cast,↓reduceIte,zq1,zq2,zq3,zq4,zq5,fct])
      exact ⟨by unfold lineV;rw [if_pos hrt],Sep.xt (by assumption)⟩
  · by_cases hr0:r=[]
    · have hl0:r.length=0:=by rw [hr0];rfl
      (have fct:=(And.intro @hrt @hl0);repeat' (first|((with_reducible apply G.a);exact rfl)|refine G.reg fun K hK=>?_|(with_reducible (refine hK _ _ ?_);clear hK K)|(have hk:=hK;clear hk;simp (disch:=first|exact dis|fail) only [push_cast,↓reduceIte,zq1,zq2,zq3,zq4,zq5,fct])|(refine brO_n ?_ ?_<;>intro hb hc<;>first|(with_reducible exact False.elim hc)|(exfalso;omega)|(simp only [hb];clear hb))|((first|refine zalc ?_|((with_reducible refine gBox ?_);refine zbox ?_));intro gb wb hS)|(refine zcp 85 (checkD_spec d _) ?_;intro wb hS)|(refine G.cn ?_ ?_<;>intro hc<;>first|(with_reducible exact False.elim hc)|(exfalso;omega)|skip)))<;>(try clear fct)
      all_goals
        (first|refine G.r1 ?_|refine G.r2 ?_|refine G.r3 ?_|refine G.r0 ?_|refine G.d0 ?_);(try simp (disch:=first|exact dis|fail) only [push_cast,↓reduceIte,zq1,zq2,zq3,zq4,zq5,fct])
        exact ⟨by unfold lineV mayR;rw [if_neg (by rw [hrt];decide),if_pos hr0,if_neg (by decide)],Sep.xt (by assumption)⟩
    · have hl0 : 0 < r.length:=List.length_pos_iff.2 hr0
      (have fct:=@hrt;repeat' (first|((with_reducible apply G.a);exact rfl)|refine G.reg fun K hK=>?_|(with_reducible (refine hK _ _ ?_);clear hK K)|(have hk:=hK;clear hk;simp (disch:=first|exact dis|fail) only [push_cast,↓reduceIte,zq1,zq2,zq3,zq4,zq5,fct])|(refine brO_n ?_ ?_<;>intro hb hc<;>first|(with_reducible exact False.elim hc)|(exfalso;omega)|(simp only [hb];clear hb))|((first|refine zalc ?_|((with_reducible refine gBox ?_);refine zbox ?_));intro gb wb hS)|(refine zcp 85 (checkD_spec d _) ?_;intro wb hS)|(refine G.cn ?_ ?_<;>intro hc<;>first|(with_reducible exact False.elim hc)|(exfalso;omega)|skip)))<;>(try clear fct)
      rename_i g3 _ _ _
      refine G.loop (fun x w'=>∃ (k g3:Nat),k≤r.length∧x 1=v∧x 2=.bool first∧x 3=.pointer (some ⟨g3,0,none⟩)∧x 22=v∧x 23=I r.length∧x 24=I k∧(r.drop k).all validM=r.all validM∧Sep w w' [boxC g3 39 [U d.dl,U d.q,I d.e]]) (fun x _=>r.length - toN (x 24)) ?_ ?_
      · exact ⟨0,_,Nat.zero_le _,by exact sf,by exact sf,by exact sf,by exact sf,by exact sf,by exact sf,rfl,(Sep.sub hS (by repeat first|exact Sub.rfl'|exact Sub.n|(refine Sub.c (by repeat constructor) ?_)|refine Sub.skip ?_))⟩
      · clear hS
        rintro u wl ⟨k,g3,hk,q1,q2,q3,q22,q23,q24,hv,hS⟩ ih
        have hm:toN (u 24)=k:=by rw [q24];simp [toN]
        by_cases hkk:(k:Int) < r.length
        · have hst:=allV_step r k hkk
          have hfk:=hN _ (getD_mem r k hkk)
          rw [hv] at hst
          cases hvk:validM (r.getD k default)
          · rw [hvk,Bool.false_and] at hst
            (have fct:=(And.intro @q1 (And.intro @q2 (And.intro @q3 (And.intro @q22 (And.intro @q23 (And.intro @q24 @hvk))))));repeat' (first|((with_reducible apply G.a);exact rfl)|refine G.reg fun K hK=>?_|(with_reducible (refine hK _ _ ?_);clear hK K)|(have hk:=hK;clear hk;simp (disch:=first|exact dis|fail) only [push_cast,↓reduceIte,zq1,zq2,zq3,zq4,zq5,fct])|(refine brO_n ?_ ?_<;>intro hb hc<;>first|(with_reducible exact False.elim hc)|(exfalso;omega)|(simp only [hb];clear hb))|((first|refine zalc ?_|((with_reducible refine gBox ?_);refine zbox ?_));intro gb wb hS)|(refine zcp 104 (valid_spec _ _ (by omega)) ?_;intro wb hS)|(refine G.cn ?_ ?_<;>intro hc<;>first|(with_reducible exact False.elim hc)|(exfalso;omega)|skip)))<;>(try clear fct)
            all_goals
              (have fct:=(And.intro @q1 (And.intro @q2 (And.intro @q3 (And.intro @q22 (And.intro @q23 @q24)))));(first|refine G.r1 ?_|refine G.r2 ?_|refine G.r3 ?_|refine G.r0 ?_|refine G.d0 ?_);(try simp (disch:=first|exact dis|fail) only [push_cast,↓reduceIte,zq1,zq2,zq3,zq4,zq5,fct]);(try clear fct))
              have hmr:mayR r=14:=by unfold mayR;rw [if_neg hr0,if_neg (show ¬ r.all validM=true by rw [hst];decide)]
              exact ⟨by unfold lineV;rw [if_neg (by rw [hrt];decide),hmr,if_neg (by decide)],Sep.xt (by assumption)⟩
          · rw [hvk,Bool.true_and] at hst
            (have fct:=(And.intro @q1 (And.intro @q2 (And.intro @q3 (And.intro @q22 (And.intro @q23 (And.intro @q24 @hvk))))));repeat' (first|((with_reducible apply G.a);exact rfl)|refine G.reg fun K hK=>?_|(with_reducible (refine hK _ _ ?_);clear hK K)|(have hk:=hK;clear hk;simp (disch:=first|exact dis|fail) only [push_cast,↓reduceIte,zq1,zq2,zq3,zq4,zq5,fct])|(refine brO_n ?_ ?_<;>intro hb hc<;>first|(with_reducible exact False.elim hc)|(exfalso;omega)|(simp only [hb];clear hb))|((first|refine zalc ?_|((with_reducible refine gBox ?_);refine zbox ?_));intro gb wb hS)|(refine zcp 104 (valid_spec _ _ (by omega)) ?_;intro wb hS)|(refine G.cn ?_ ?_<;>intro hc<;>first|(with_reducible exact False.elim hc)|(exfalso;omega)|skip)))<;>(try clear fct)
            all_goals
              have fct:=(And.intro @q1 (And.intro @q2 (And.intro @q3 (And.intro @q22 (And.intro @q23 @q24)))));refine ih _ _ ⟨k+1,g3,by omega,by exact sf,by exact sf,by exact sf,by exact sf,by exact sf,by exact sf,hst.symm,(Sep.sub hS (by repeat first|exact Sub.rfl'|exact Sub.n|(refine Sub.c (by repeat constructor) ?_)|refine Sub.skip ?_))⟩ ?_
              rw [hm];simp only [push_cast,↓reduceIte,zq1,zq2,zq3,zq4,zq5,toN_i,q1,q2,q3,q22,q23,q24];omega
        · rw [List.drop_eq_nil_of_le (by omega)] at hv
          have hmr:mayR r=0:=by unfold mayR;rw [if_neg hr0,if_pos (show r.all validM=true from hv.symm)]
          (have fct:=(And.intro @q1 (And.intro @q2 (And.intro @q3 (And.intro @q22 (And.intro @q23 @q24)))));repeat' (first|((with_reducible apply G.a);exact rfl)|refine G.reg fun K hK=>?_|(with_reducible (refine hK _ _ ?_);clear hK K)|(have hk:=hK;clear hk;simp (disch:=first|exact dis|fail) only [push_cast,↓reduceIte,zq1,zq2,zq3,zq4,zq5,fct])|(refine brO_n ?_ ?_<;>intro hb hc<;>first|(with_reducible exact False.elim hc)|(exfalso;omega)|(simp only [hb];clear hb))|((first|refine zalc ?_|((with_reducible refine gBox ?_);refine zbox ?_));intro gb wb hS)|(refine G.cn ?_ ?_<;>intro hc<;>first|(with_reducible exact False.elim hc)|(exfalso;omega)|skip)))<;>(try clear fct)
          all_goals exact ht hrt hmr (by simp only [push_cast,↓reduceIte,zq1,zq2,zq3,zq4,zq5,q1,q2,q3,q22,q23,q24]) (by simp only [push_cast,↓reduceIte,zq1,zq2,zq3,zq4,zq5,q1,q2,q3,q22,q23,q24]) (by simp only [push_cast,↓reduceIte,zq1,zq2,zq3,zq4,zq5,q1,q2,q3,q22,q23,q24]) hS
theorem line_spec (d:Dl) (hd:byD d) (first:Bool) (w:World) (hr:Rd w eS v r) (hN:∀ f∈r,f.length≤1000000) (hl:r.length≤10000):Pu Tryz.prog 69 #[(.agg #[U d.dl,U d.q,I d.e]),v,.bool first] w (lineV d r first):=by
  refine in69 ?_
  change G _ _ _ [.c (wlineV wlineT)] _ _ _
  refine wline_pre d first w hr hN hl ?_
  intro ρ w' g3 hrt hm q1 q2 q3 hS
  have e:lineV d r first=.tuple #[S (lineM d r first),I 0]:=by unfold lineV;rw [if_neg (by rw [hrt];decide),if_pos hm]
  rw [e]
  exact wline_tail d hd hrt first hr hN hl q1 q2 q3 hS
end
end Go.Proofs.YtllanbmpacgigaaGreatDoor
