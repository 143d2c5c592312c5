/- Texts of the proof, joined. -/
import Derived.Test.YtjajihaeoolefaaGreatDoorBZ25
import Derived.Test.YtjajihaeoolefaaGreatDoorBW17
import Derived.Test.YtjajihaeoolefaaGreatDoorBW20
import Derived.Test.YtjajihaeoolefaaGreatDoorBFw
namespace Go.Proofs.YtjajihaeoolefaaGreatDoor
open Nat renaming reduceAdd→zq1,reduceLeDiff→zq2,reduceEqDiff→zq3,reduceLT→zq4
open Int renaming reduceToNat→zq5
set_option linter.unusedSimpArgs false
set_option linter.unusedVariables false
attribute [local irreducible] SemK UnitK StK AlcK BslK CallK CallV Instr.box Builtin.append_ Instr.makeSlice Instr.makeMap Instr.lookup Instr.mapUpdate Instr.sliceAt convert
open Go.RowKit
def few23M (l:List Col) (rows:List (List Val)):Bool:=fewC l && (smallM rows && rows.all (fun r=>r.all rightM))
theorem few23_len {l:List Col} {rows:List (List Val)} (h:few23M l rows=true):(l.length≤12∧∀ c∈l,c.name.length≤40)∧rows.length≤12∧(∀ r∈rows,r.length≤12∧∀ v∈r,v.s.length≤40):=by
  unfold few23M at h
  rw [Bool.and_eq_true,Bool.and_eq_true] at h
  refine ⟨fewC_len h.1,?_⟩
  have h2:=h.2.1
  unfold smallM at h2
  rw [Bool.and_eq_true,decide_eq_true_eq,List.all_eq_true] at h2
  exact ⟨h2.1,fun r hr=>shortR_len (h2.2 r hr)⟩
theorem all_dropS {α:Type} [Inhabited α] (p:α→Bool) (l:List α) (k:Nat) (h:(k:Int) < l.length):(l.drop k).all p=(p (l.getD k default) && (l.drop (k+1)).all p):=by
  rw [dropD _ _ h,List.all_cons]
def c16l1:MC:=(.seq (.reg [qq 27 (.bin .lss (.tmp 26) (.tmp 25))]) (.seq (.cond (.tmp 27) .skip (.exit 2)) (.seq (.blk 3 (.seq (.reg [qq 28 (.adr 4 (.tmp 24) (.tmp 26)),qq 29 (.ld (.some 4) (.tmp 28)),qq 6 (.alc 84 [(.int .i64 0),(S []),(.int .i64 0),(.bool false)]),qn (.st 4 (.tmp 6) (.tmp 29))]) (.seq (.reg [qq 30 (.ld (.some 4) (.tmp 6)),qq 31 (.call 47 [(.tmp 30)]),qq 32 (.call 46 [(.tmp 31)]),qq 33 (.un .not (.tmp 32))]) (.cond (.tmp 33) (.seq (.reg [qq 2 (.mv (kb false))]) .ret) .skip)))) (.reg [qq 34 (.bin .add (.tmp 26) (ki 1)),qm 26 34]))))
def c16l2:MC:=(.seq (.reg [qq 21 (.bin .lss (.tmp 20) (.tmp 19))]) (.seq (.cond (.tmp 21) .skip (.exit 0)) (.seq (.blk 1 (.seq (.reg [qq 22 (.adr 1 (.tmp 18) (.tmp 20)),qq 23 (.ld none (.tmp 22)),qm 4 23]) (.seq (.reg [qm 24 4,qq 25 (.len (.tmp 24)),qq 26 (.mv (ki 0))]) (.blk 2 (.loop c16l1))))) (.reg [qq 35 (.bin .add (.tmp 20) (ki 1)),qm 20 35]))))
def c16:MC:=(.seq (.reg [qq 1 (.raw (.box 27 (.tmp 0)) 0),qq 2 (.mv (kb false))]) (.seq (.seq (.reg [qq 7 (.fad 0 (.tmp 1)),qq 8 (.ld none (.tmp 7)),qq 9 (.call 44 [(.tmp 8)]),qq 10 (.un .not (.tmp 9)),qm 11 10,qf 11 12 (.fad 1 (.tmp 1)),qf 11 13 (.ld none (.tmp 12)),qf 11 14 (.call 45 [(.tmp 13)]),qf 11 15 (.un .not (.tmp 14)),qq 16 (.pick (.tmp 11) (kb true) (.tmp 15))]) (.cond (.tmp 16) (.seq (.reg [qq 2 (.mv (kb false))]) .ret) .skip)) (.seq (.seq (.reg [qq 17 (.fad 1 (.tmp 1)),qq 18 (.ld none (.tmp 17)),qq 19 (.len (.tmp 18)),qq 20 (.mv (ki 0))]) (.blk 0 (.loop c16l2))) (.seq (.reg [qq 2 (.mv (kb true))]) .ret))))
theorem k16:conv Tryz.prog 36 (Tryz.f16.body.getD .skip)=c16:=by kernel_rfl
theorem in16 {a0:Value} {w:World} {R:Value→World→Prop} (h:G Tryz.prog Tryz.f16 36 [.c c16] R (frL 0 [a0]) w):Ret Tryz.prog 16 #[a0] w R:=G.enter (args:=[a0]) Tryz.func16 (c:=Tryz.f16.body.getD .skip) (by kernel_rfl) (by kernel_rfl) (by simp) k16 h
set_option maxHeartbeats 1000000 in
theorem few23_spec {vl vr:Value} {l:List Col} {rows:List (List Val)} {w:World} (h0:Rd w eC vl l) (h2:RdT w eVal vr rows):Pu Tryz.prog 16 #[.agg #[vl,vr]] w (.bool (few23M l rows)):=by
  refine in16 ?_
  have hS:=Sep.start w
  have hsm:=fun (w2:World) (hx:Ext w w2)=>small20_spec (w:=w2) (h2.ext hx)
  have hfw:=fun (w2:World) (hx:Ext w w2)=>few20_spec (w:=w2) (h0.ext hx)
  obtain ⟨vs,g1,l1,i1⟩:=h2
  have hbd2:=g1.bd
  unfold few23M
  cases hf:fewC l
  · (have fct:=@hf;repeat' (first|((with_reducible apply G.a);exact rfl)|refine G.reg fun K hK=>?_|(with_reducible (refine hK _ _ ?_);clear hK K)|(have hk:=hK;clear hk;simp (disch:=first|exact dis|fail) only [push_cast,↓reduceIte,zq1,zq2,zq3,zq4,zq5,fct])|(refine brO_n ?_ ?_<;>intro hb hc<;>first|(with_reducible exact False.elim hc)|(exfalso;omega)|(simp only [hb];clear hb))|((first|refine zalc ?_|((with_reducible refine gBox ?_);refine zbox ?_));intro gb wb hS)|((with_reducible refine gSt ?_);refine zs2 ?_;intro wb hS)|(refine zcp 44 (hfw _ hS.x) ?_;intro wb hS)|(refine zcp 45 (hsm _ hS.x) ?_;intro wb hS)|(refine G.cn ?_ ?_<;>intro hc<;>first|(with_reducible exact False.elim hc)|(exfalso;omega)|skip)))<;>(try clear fct)
    all_goals
      (first|refine G.r1 ?_|refine G.r2 ?_|refine G.r3 ?_|refine G.r0 ?_|refine G.d0 ?_);(try simp (disch:=first|exact dis|fail) only [push_cast,↓reduceIte,zq1,zq2,zq3,zq4,zq5,fct])
      (first|exact Sep.xt (by assumption)|exact ⟨rfl,Sep.xt (by assumption)⟩)
  have hsl:smallM rows=true→∀ i,i < rows.length→∀ v∈rows.getD i [],v.s.length≤40:=fun h i hi=>by
    unfold smallM at h
    rw [Bool.and_eq_true,List.all_eq_true] at h
    exact (shortR_len (h.2 _ (getD_mem rows i (by omega)))).2
  cases hm:smallM rows
  · (have fct:=(And.intro @hf @hm);repeat' (first|((with_reducible apply G.a);exact rfl)|refine G.reg fun K hK=>?_|(with_reducible (refine hK _ _ ?_);clear hK K)|(have hk:=hK;clear hk;simp (disch:=first|exact dis|fail) only [push_cast,↓reduceIte,zq1,zq2,zq3,zq4,zq5,fct])|(refine brO_n ?_ ?_<;>intro hb hc<;>first|(with_reducible exact False.elim hc)|(exfalso;omega)|(simp only [hb];clear hb))|((first|refine zalc ?_|((with_reducible refine gBox ?_);refine zbox ?_));intro gb wb hS)|((with_reducible refine gSt ?_);refine zs2 ?_;intro wb hS)|(refine zcp 44 (hfw _ hS.x) ?_;intro wb hS)|(refine zcp 45 (hsm _ hS.x) ?_;intro wb hS)|(refine G.cn ?_ ?_<;>intro hc<;>first|(with_reducible exact False.elim hc)|(exfalso;omega)|skip)))<;>(try clear fct)
    all_goals
      (first|refine G.r1 ?_|refine G.r2 ?_|refine G.r3 ?_|refine G.r0 ?_|refine G.d0 ?_);(try simp (disch:=first|exact dis|fail) only [push_cast,↓reduceIte,zq1,zq2,zq3,zq4,zq5,fct])
      (first|exact Sep.xt (by assumption)|exact ⟨rfl,Sep.xt (by assumption)⟩)
  have hsl:=hsl hm
  rw [Bool.true_and,Bool.true_and]
  (have fct:=(And.intro @hf @hm);repeat' (first|((with_reducible apply G.a);exact rfl)|refine G.reg fun K hK=>?_|(with_reducible (refine hK _ _ ?_);clear hK K)|(have hk:=hK;clear hk;simp (disch:=first|exact dis|fail) only [push_cast,↓reduceIte,zq1,zq2,zq3,zq4,zq5,fct])|(refine brO_n ?_ ?_<;>intro hb hc<;>first|(with_reducible exact False.elim hc)|(exfalso;omega)|(simp only [hb];clear hb))|((first|refine zalc ?_|((with_reducible refine gBox ?_);refine zbox ?_));intro gb wb hS)|((with_reducible refine gSt ?_);refine zs2 ?_;intro wb hS)|(refine zcp 44 (hfw _ hS.x) ?_;intro wb hS)|(refine zcp 45 (hsm _ hS.x) ?_;intro wb hS)|(refine G.cn ?_ ?_<;>intro hc<;>first|(with_reducible exact False.elim hc)|(exfalso;omega)|skip)))<;>(try clear fct)
  all_goals
  refine G.loop (fun r w'=>∃ (k:Nat) (g:Nat),k≤vs.length∧r 20=I k∧r 19=I vs.length∧r 18=vr∧(rows.drop k).all (fun r=>r.all rightM)=rows.all (fun r=>r.all rightM)∧Sep w w' []) (fun r _=>vs.length - toN (r 20)) ?_ ?_
  · exact ⟨0,0,Nat.zero_le _,by exact sf,by exact sf,by exact sf,rfl,(Sep.sub hS (by repeat first|exact Sub.rfl'|exact Sub.nil0|(refine Sub.c (by repeat constructor) ?_)|refine Sub.skip ?_))⟩
  · clear hS
    rintro u wl ⟨k,g,hk,q20,q19,q18,e,hS⟩ ih
    have hmm:toN (u 20)=k:=by rw [q20];simp [toN]
    have h1k:=g1.ext hS.x
    by_cases hlt:(k:Int) < vs.length
    · have hst := all_dropS (fun r:List Val=>r.all rightM) rows k (by omega)
      rw [e] at hst
      have hrk:=i1 k (by omega)
      have hsk:=hsl k (by omega)
      have hd:rows.getD k default=rows.getD k []:=rfl
      rw [hd] at hst
      generalize rows.getD k []=rk at hst hrk hsk
      have hrw:=hrk.ext hS.x
      have hbr:=hrk.bd
      (have fct:=(And.intro @q20 (And.intro @q19 @q18));repeat' (first|((with_reducible apply G.a);exact rfl)|refine G.reg fun K hK=>?_|(with_reducible (refine hK _ _ ?_);clear hK K)|(have hk:=hK;clear hk;simp (disch:=first|exact dis|fail) only [push_cast,↓reduceIte,zq1,zq2,zq3,zq4,zq5,fct])|(refine brO_n ?_ ?_<;>intro hb hc<;>first|(with_reducible exact False.elim hc)|(exfalso;omega)|(simp only [hb];clear hb))|((first|refine zalc ?_|((with_reducible refine gBox ?_);refine zbox ?_));intro gb wb hS)|((with_reducible refine gSt ?_);refine zs2 ?_;intro wb hS)|(refine G.cn ?_ ?_<;>intro hc<;>first|(with_reducible exact False.elim hc)|(exfalso;omega)|skip)))<;>(try clear fct)
      all_goals
      refine G.loop (fun r w'=>∃ j:Nat,j≤rk.length∧r 26=I j∧r 25=I rk.length∧r 24=vs.getD k default∧r 20=I k∧r 19=I vs.length∧r 18=vr∧(rk.drop j).all rightM=rk.all rightM∧Sep w w' []) (fun r _=>rk.length - toN (r 26)) ?_ ?_
      · have fct:=(And.intro @q20 (And.intro @q19 @q18));exact ⟨0,Nat.zero_le _,by exact sf,by exact sf,by exact sf,by exact sf,by exact sf,by exact sf,rfl,hS⟩
      · clear hS q20 q19 q18 hrw
        rintro u2 wl2 ⟨j,hj,q26,q25,q24,q20,q19,q18,e2,hS⟩ ih2
        have hm2:toN (u2 26)=j:=by rw [q26];simp [toN]
        by_cases hlj:(j:Int) < rk.length
        · have hst2:=all_dropS rightM rk j hlj
          rw [e2] at hst2
          have hrw:=hrk.ext hS.x
          have hsj:=hsk _ (getD_mem rk j hlj)
          have hrf:=fun (w2:World)=>ref17_spec (rk.getD j default) w2
          have hrr:=fun (w2:World)=>rright17_spec (rk.getD j default) w2 (by omega)
          generalize hxx:rk.getD j default=x at *
          cases hr:rightM x
          · rw [hr,Bool.false_and] at hst2
            rw [hst2,Bool.false_and] at hst
            (have fct:=(And.intro @q26 (And.intro @q25 (And.intro @q24 (And.intro @q20 (And.intro @q19 (And.intro @q18 (And.intro @hxx @hr)))))));repeat' (first|((with_reducible apply G.a);exact rfl)|refine G.reg fun K hK=>?_|(with_reducible (refine hK _ _ ?_);clear hK K)|(have hk:=hK;clear hk;simp (disch:=first|exact dis|fail) only [push_cast,↓reduceIte,zq1,zq2,zq3,zq4,zq5,fct])|(refine brO_n ?_ ?_<;>intro hb hc<;>first|(with_reducible exact False.elim hc)|(exfalso;omega)|(simp only [hb];clear hb))|((first|refine zalc ?_|((with_reducible refine gBox ?_);refine zbox ?_));intro gb wb hS)|((with_reducible refine gSt ?_);refine zs2 ?_;intro wb hS)|(refine zcp 47 (hrf _) ?_;intro wb hS)|(refine zcp 46 (hrr _) ?_;intro wb hS)|(refine G.cn ?_ ?_<;>intro hc<;>first|(with_reducible exact False.elim hc)|(exfalso;omega)|skip)))<;>(try clear fct)
            all_goals
              (have fct:=(And.intro @q26 (And.intro @q25 (And.intro @q24 (And.intro @q20 (And.intro @q19 @q18)))));(first|refine G.r1 ?_|refine G.r2 ?_|refine G.r3 ?_|refine G.r0 ?_|refine G.d0 ?_);(try simp (disch:=first|exact dis|fail) only [push_cast,↓reduceIte,zq1,zq2,zq3,zq4,zq5,fct]);(try clear fct))
              rw [hst]
              (first|exact Sep.xt (by assumption)|exact ⟨rfl,Sep.xt (by assumption)⟩)
          · rw [hr,Bool.true_and] at hst2
            (have fct:=(And.intro @q26 (And.intro @q25 (And.intro @q24 (And.intro @q20 (And.intro @q19 (And.intro @q18 (And.intro @hxx @hr)))))));repeat' (first|((with_reducible apply G.a);exact rfl)|refine G.reg fun K hK=>?_|(with_reducible (refine hK _ _ ?_);clear hK K)|(have hk:=hK;clear hk;simp (disch:=first|exact dis|fail) only [push_cast,↓reduceIte,zq1,zq2,zq3,zq4,zq5,fct])|(refine brO_n ?_ ?_<;>intro hb hc<;>first|(with_reducible exact False.elim hc)|(exfalso;omega)|(simp only [hb];clear hb))|((first|refine zalc ?_|((with_reducible refine gBox ?_);refine zbox ?_));intro gb wb hS)|((with_reducible refine gSt ?_);refine zs2 ?_;intro wb hS)|(refine zcp 47 (hrf _) ?_;intro wb hS)|(refine zcp 46 (hrr _) ?_;intro wb hS)|(refine G.cn ?_ ?_<;>intro hc<;>first|(with_reducible exact False.elim hc)|(exfalso;omega)|skip)))<;>(try clear fct)
            all_goals
              have fct:=(And.intro @q26 (And.intro @q25 (And.intro @q24 (And.intro @q20 (And.intro @q19 @q18)))));refine ih2 _ _ ⟨j+1,by omega,by exact sf,by exact sf,by exact sf,by exact sf,by exact sf,by exact sf,hst2.symm,(Sep.sub hS (by repeat first|exact Sub.rfl'|exact Sub.nil0|(refine Sub.c (by repeat constructor) ?_)|refine Sub.skip ?_))⟩ ?_
              rw [hm2];simp only [push_cast,↓reduceIte,zq1,zq2,zq3,zq4,zq5,toN_i,q26,q25,q24,q20,q19,q18];omega
        · rw [List.drop_eq_nil_of_le (by omega),List.all_nil] at e2
          rw [←e2,Bool.true_and] at hst
          (have fct:=(And.intro @q26 (And.intro @q25 (And.intro @q24 (And.intro @q20 (And.intro @q19 @q18)))));repeat' (first|((with_reducible apply G.a);exact rfl)|refine G.reg fun K hK=>?_|(with_reducible (refine hK _ _ ?_);clear hK K)|(have hk:=hK;clear hk;simp (disch:=first|exact dis|fail) only [push_cast,↓reduceIte,zq1,zq2,zq3,zq4,zq5,fct])|(refine brO_n ?_ ?_<;>intro hb hc<;>first|(with_reducible exact False.elim hc)|(exfalso;omega)|(simp only [hb];clear hb))|((first|refine zalc ?_|((with_reducible refine gBox ?_);refine zbox ?_));intro gb wb hS)|((with_reducible refine gSt ?_);refine zs2 ?_;intro wb hS)|(refine G.cn ?_ ?_<;>intro hc<;>first|(with_reducible exact False.elim hc)|(exfalso;omega)|skip)))<;>(try clear fct)
          all_goals
            have fct:=(And.intro @q26 (And.intro @q25 (And.intro @q24 (And.intro @q20 (And.intro @q19 @q18)))));refine ih _ _ ⟨k+1,0,by omega,by exact sf,by exact sf,by exact sf,hst.symm,hS⟩ ?_
            rw [hmm];simp only [push_cast,↓reduceIte,zq1,zq2,zq3,zq4,zq5,toN_i,q26,q25,q24,q20,q19,q18];omega
    · rw [List.drop_eq_nil_of_le (by omega),List.all_nil] at e
      (have fct:=(And.intro @q20 (And.intro @q19 @q18));repeat' (first|((with_reducible apply G.a);exact rfl)|refine G.reg fun K hK=>?_|(with_reducible (refine hK _ _ ?_);clear hK K)|(have hk:=hK;clear hk;simp (disch:=first|exact dis|fail) only [push_cast,↓reduceIte,zq1,zq2,zq3,zq4,zq5,fct])|(refine brO_n ?_ ?_<;>intro hb hc<;>first|(with_reducible exact False.elim hc)|(exfalso;omega)|(simp only [hb];clear hb))|((first|refine zalc ?_|((with_reducible refine gBox ?_);refine zbox ?_));intro gb wb hS)|((with_reducible refine gSt ?_);refine zs2 ?_;intro wb hS)|(refine G.cn ?_ ?_<;>intro hc<;>first|(with_reducible exact False.elim hc)|(exfalso;omega)|skip)))<;>(try clear fct)
      all_goals
        (have fct:=(And.intro @q20 (And.intro @q19 @q18));(first|refine G.r1 ?_|refine G.r2 ?_|refine G.r3 ?_|refine G.r0 ?_|refine G.d0 ?_);(try simp (disch:=first|exact dis|fail) only [push_cast,↓reduceIte,zq1,zq2,zq3,zq4,zq5,fct]);(try clear fct))
        rw [←e]
        (first|exact Sep.xt (by assumption)|exact ⟨rfl,Sep.xt (by assumption)⟩)
end Go.Proofs.YtjajihaeoolefaaGreatDoor
namespace Go.Proofs.YtjajihaeoolefaaGreatDoor
open Nat renaming reduceAdd→zq1,reduceLeDiff→zq2,reduceEqDiff→zq3,reduceLT→zq4
open Int renaming reduceToNat→zq5
set_option linter.unusedSimpArgs false
set_option linter.unusedVariables false
attribute [local irreducible] SemK UnitK StK AlcK BslK CallK CallV Instr.box Builtin.append_ Instr.makeSlice Instr.makeMap Instr.lookup Instr.mapUpdate Instr.sliceAt convert
open Go.RowKit
def fits25M (la:List Col) (ra:List (List Val)) (lb:List Col) (rb:List (List Val)) (keys:List Str):Bool:=keys.all (fun k=>decide (k.length≤100)) && (few23M la ra && (few23M lb rb && decide (keys.length≤12)))
def c4l1:MC:=(.seq (.reg [qq 9 (.bin .lss (.tmp 8) (.tmp 7))]) (.seq (.cond (.tmp 9) .skip (.exit 0)) (.seq (.blk 1 (.seq (.reg [qq 10 (.adr 1 (.tmp 6) (.tmp 8)),qq 11 (.ld none (.tmp 10)),qm 4 11]) (.seq (.reg [qm 12 4,qq 13 (.lenS (.tmp 12)),qq 14 (.bin .gtr (.tmp 13) (ki 100))]) (.cond (.tmp 14) (.seq (.reg [qq 2 (.mv (kb false))]) .ret) .skip)))) (.reg [qq 15 (.bin .add (.tmp 8) (ki 1)),qm 8 15]))))
def c4:MC:=(.seq (.reg [qq 1 (.raw (.box 30 (.tmp 0)) 0),qq 2 (.mv (kb false))]) (.seq (.seq (.reg [qq 5 (.fad 4 (.tmp 1)),qq 6 (.ld none (.tmp 5)),qq 7 (.len (.tmp 6)),qq 8 (.mv (ki 0))]) (.blk 0 (.loop c4l1))) (.seq (.reg [qq 16 (.fad 0 (.tmp 1)),qq 17 (.ld (.some 2) (.tmp 16)),qq 18 (.call 16 [(.tmp 17)]),qm 19 18,qt 19 20 (.fad 2 (.tmp 1)),qt 19 21 (.ld (.some 2) (.tmp 20)),qt 19 22 (.call 16 [(.tmp 21)]),qq 23 (.pick (.tmp 19) (.tmp 22) (kb false)),qm 24 23,qt 24 25 (.fad 4 (.tmp 1)),qt 24 26 (.ld none (.tmp 25)),qt 24 27 (.len (.tmp 26)),qt 24 28 (.bin .leq (.tmp 27) (ki 12)),qq 29 (.pick (.tmp 24) (.tmp 28) (kb false)),qm 2 29]) .ret)))
theorem k4:conv Tryz.prog 30 (Tryz.f4.body.getD .skip)=c4:=by kernel_rfl
theorem in4 {a0:Value} {w:World} {R:Value→World→Prop} (h:G Tryz.prog Tryz.f4 30 [.c c4] R (frL 0 [a0]) w):Ret Tryz.prog 4 #[a0] w R:=G.enter (args:=[a0]) Tryz.func4 (c:=Tryz.f4.body.getD .skip) (by kernel_rfl) (by kernel_rfl) (by simp) k4 h
theorem fits25_spec {va ua vb ub vk:Value} {la lb:List Col} {ra rb:List (List Val)} {keys:List Str} {w:World} (ha:Rd w eC va la) (ha2:RdT w eVal ua ra) (hb:Rd w eC vb lb) (hb2:RdT w eVal ub rb) (hk:Rd w eS vk keys) :
    Pu Tryz.prog 4 #[.agg #[va,ua,vb,ub,vk]] w (.bool (fits25M la ra lb rb keys)):=by
  refine in4 ?_
  have hS:=Sep.start w
  have hbd:=hk.bd
  have oa:=ha.one
  have ob:=hb.one
  have ok:=hk.one
  have oa2:One ua:=by obtain ⟨vs,h,_⟩:=ha2;exact h.one
  have ob2:One ub:=by obtain ⟨vs,h,_⟩:=hb2;exact h.one
  have hfa:=fun (w2:World) (hx:Ext w w2)=>few23_spec (w:=w2) (ha.ext hx) (ha2.ext hx)
  have hfb:=fun (w2:World) (hx:Ext w w2)=>few23_spec (w:=w2) (hb.ext hx) (hb2.ext hx)
  unfold fits25M
  repeat' (first|((with_reducible apply G.a);exact rfl)|refine G.reg fun K hK=>?_|(with_reducible (refine hK _ _ ?_);clear hK K)|(have hk:=hK;clear hk;simp (disch:=first|exact dis|fail) only [push_cast,↓reduceIte,zq1,zq2,zq3,zq4,zq5,fct])|(refine brO_n ?_ ?_<;>intro hb hc<;>first|(with_reducible exact False.elim hc)|(exfalso;omega)|(simp only [hb];clear hb))|(((with_reducible refine gBox ?_);refine zbox ?_);intro gb wb hS)|(refine G.cn ?_ ?_<;>intro hc<;>first|(with_reducible exact False.elim hc)|(exfalso;omega)|skip))
  all_goals
  refine G.loop (fun r w'=>∃ (k:Nat) (g:Nat),k≤keys.length∧r 8=I k∧r 7=I keys.length∧r 6=vk∧r 1=.pointer (some ⟨g,0,none⟩)∧(keys.drop k).all (fun k=>decide (k.length≤100))=keys.all (fun k=>decide (k.length≤100))∧Sep w w' [boxC g 30 [va,ua,vb,ub,vk]]) (fun r _=>keys.length - toN (r 8)) ?_ ?_
  · exact ⟨0,_,Nat.zero_le _,by exact sf,by exact sf,by exact sf,by exact sf,rfl,(Sep.sub hS (by repeat first|exact Sub.rfl'|exact Sub.nil0|(refine Sub.c (by repeat constructor) ?_)|refine Sub.skip ?_))⟩
  · clear hS
    rintro u wl ⟨k,g,hk',q8,q7,q6,q1,e,hS⟩ ih
    have hm:toN (u 8)=k:=by rw [q8];simp [toN]
    have h1k:=hk.ext hS.x
    by_cases hlt:(k:Int) < keys.length
    · have hst:=all_dropS (fun k:Str=>decide (k.length≤100)) keys k (by omega)
      rw [e] at hst
      by_cases h100:((keys.getD k default).length:Int)≤100
      · rw [decide_eq_true (show (keys.getD k default).length≤100 by omega),Bool.true_and] at hst
        (have fct:=(And.intro @q8 (And.intro @q7 (And.intro @q6 @q1)));repeat' (first|((with_reducible apply G.a);exact rfl)|refine G.reg fun K hK=>?_|(with_reducible (refine hK _ _ ?_);clear hK K)|(have hk:=hK;clear hk;simp (disch:=first|exact dis|fail) only [push_cast,↓reduceIte,zq1,zq2,zq3,zq4,zq5,fct])|(refine brO_n ?_ ?_<;>intro hb hc<;>first|(with_reducible exact False.elim hc)|(exfalso;omega)|(simp only [hb];clear hb))|(((with_reducible refine gBox ?_);refine zbox ?_);intro gb wb hS)|(refine G.cn ?_ ?_<;>intro hc<;>first|(with_reducible exact False.elim hc)|(exfalso;omega)|skip)))<;>(try clear fct)
        all_goals
          have fct:=(And.intro @q8 (And.intro @q7 (And.intro @q6 @q1)));refine ih _ _ ⟨k+1,g,by omega,by exact sf,by exact sf,by exact sf,by exact sf,hst.symm,hS⟩ ?_
          rw [hm];simp only [push_cast,↓reduceIte,zq1,zq2,zq3,zq4,zq5,toN_i,q8,q7,q6,q1];omega
      · rw [decide_eq_false (show ¬ (keys.getD k default).length≤100 by omega),Bool.false_and] at hst
        (have fct:=(And.intro @q8 (And.intro @q7 (And.intro @q6 @q1)));repeat' (first|((with_reducible apply G.a);exact rfl)|refine G.reg fun K hK=>?_|(with_reducible (refine hK _ _ ?_);clear hK K)|(have hk:=hK;clear hk;simp (disch:=first|exact dis|fail) only [push_cast,↓reduceIte,zq1,zq2,zq3,zq4,zq5,fct])|(refine brO_n ?_ ?_<;>intro hb hc<;>first|(with_reducible exact False.elim hc)|(exfalso;omega)|(simp only [hb];clear hb))|(((with_reducible refine gBox ?_);refine zbox ?_);intro gb wb hS)|(refine G.cn ?_ ?_<;>intro hc<;>first|(with_reducible exact False.elim hc)|(exfalso;omega)|skip)))<;>(try clear fct)
        all_goals
          (have fct:=(And.intro @q8 (And.intro @q7 (And.intro @q6 @q1)));(first|refine G.r1 ?_|refine G.r2 ?_|refine G.r3 ?_|refine G.r0 ?_|refine G.d0 ?_);(try simp (disch:=first|exact dis|fail) only [push_cast,↓reduceIte,zq1,zq2,zq3,zq4,zq5,fct]);(try clear fct))
          rw [hst]
          (first|exact Sep.xt (by assumption)|exact ⟨rfl,Sep.xt (by assumption)⟩)
    · rw [List.drop_eq_nil_of_le (by omega),List.all_nil] at e
      rw [←e,Bool.true_and]
      have hkd:decide (keys.length≤12)=decide ((keys.length:Int)≤12):=by rw [Bool.eq_iff_iff,decide_eq_true_iff,decide_eq_true_iff];omega
      rw [hkd]
      cases h1:few23M la ra
      · rw [h1] at hfa
        (have fct:=(And.intro @q8 (And.intro @q7 (And.intro @q6 @q1)));repeat' (first|((with_reducible apply G.a);exact rfl)|refine G.reg fun K hK=>?_|(with_reducible (refine hK _ _ ?_);clear hK K)|(have hk:=hK;clear hk;simp (disch:=first|exact dis|fail) only [push_cast,↓reduceIte,zq1,zq2,zq3,zq4,zq5,fct])|(refine brO_n ?_ ?_<;>intro hb hc<;>first|(with_reducible exact False.elim hc)|(exfalso;omega)|(simp only [hb];clear hb))|(((with_reducible refine gBox ?_);refine zbox ?_);intro gb wb hS)|((with_reducible (show CallK _ 16 [.agg #[va,ua]] _ _ _ _));refine zcp 16 (hfa _ hS.x) ?_;intro wb hS)|((with_reducible (show CallK _ 16 [.agg #[vb,ub]] _ _ _ _));refine zcp 16 (hfb _ hS.x) ?_;intro wb hS)|(refine G.cn ?_ ?_<;>intro hc<;>first|(with_reducible exact False.elim hc)|(exfalso;omega)|skip)))<;>(try clear fct)
        all_goals
          (have fct:=(And.intro @q8 (And.intro @q7 (And.intro @q6 @q1)));(first|refine G.r1 ?_|refine G.r2 ?_|refine G.r3 ?_|refine G.r0 ?_|refine G.d0 ?_);(try simp (disch:=first|exact dis|fail) only [push_cast,↓reduceIte,zq1,zq2,zq3,zq4,zq5,fct]);(try clear fct))
          (first|exact Sep.xt (by assumption)|exact ⟨rfl,Sep.xt (by assumption)⟩)
      · rw [h1] at hfa
        cases h2:few23M lb rb
        all_goals
          rw [h2] at hfb
          (have fct:=(And.intro @q8 (And.intro @q7 (And.intro @q6 @q1)));repeat' (first|((with_reducible apply G.a);exact rfl)|refine G.reg fun K hK=>?_|(with_reducible (refine hK _ _ ?_);clear hK K)|(have hk:=hK;clear hk;simp (disch:=first|exact dis|fail) only [push_cast,↓reduceIte,zq1,zq2,zq3,zq4,zq5,fct])|(refine brO_n ?_ ?_<;>intro hb hc<;>first|(with_reducible exact False.elim hc)|(exfalso;omega)|(simp only [hb];clear hb))|(((with_reducible refine gBox ?_);refine zbox ?_);intro gb wb hS)|((with_reducible (show CallK _ 16 [.agg #[va,ua]] _ _ _ _));refine zcp 16 (hfa _ hS.x) ?_;intro wb hS)|((with_reducible (show CallK _ 16 [.agg #[vb,ub]] _ _ _ _));refine zcp 16 (hfb _ hS.x) ?_;intro wb hS)|(refine G.cn ?_ ?_<;>intro hc<;>first|(with_reducible exact False.elim hc)|(exfalso;omega)|skip)))<;>(try clear fct)
          all_goals
            (have fct:=(And.intro @q8 (And.intro @q7 (And.intro @q6 @q1)));(first|refine G.r1 ?_|refine G.r2 ?_|refine G.r3 ?_|refine G.r0 ?_|refine G.d0 ?_);(try simp (disch:=first|exact dis|fail) only [push_cast,↓reduceIte,zq1,zq2,zq3,zq4,zq5,fct]);(try clear fct))
            (first|exact Sep.xt (by assumption)|exact ⟨rfl,Sep.xt (by assumption)⟩)
def c15:MC:=(.seq (.reg [qq 1 (.raw (.box 27 (.tmp 0)) 0),qq 2 (.alc 57 [(.slice none 0 0),(.slice none 0 0)])]) (.seq (.drg [qq 3 (.fad 0 (.tmp 1)),qq 4 (.ld none (.tmp 3)),qq 5 (.call 43 [(.tmp 4)]),qq 6 (.fad 1 (.tmp 1)),qq 7 (.ld none (.tmp 6)),qq 8 (.call 12 [(.tmp 7)]),qq 9 (.bld [(.slice none 0 0),(.slice none 0 0)] [⟨0,⟨1,(.tmp 5)⟩⟩,⟨1,⟨1,(.tmp 8)⟩⟩]),qn (.st 2 (.tmp 2) (.tmp 9))] (.some (.br [qq 3 (.fad 0 (.tmp 1)),qq 6 (.fad 1 (.tmp 1))] (.br [qq 4 (.ld none (.tmp 3))] (.leaf [qq 5 (.call 43 [(.tmp 4)]),qq 7 (.ld none (.tmp 6)),qq 8 (.call 12 [(.tmp 7)]),qq 9 (.bld [(.slice none 0 0),(.slice none 0 0)] [⟨0,⟨1,(.tmp 5)⟩⟩,⟨1,⟨1,(.tmp 8)⟩⟩]),qn (.st 2 (.tmp 2) (.tmp 9))]) (.leaf [qq 7 (.ld none (.tmp 6)),qq 5 (.call 43 [(.tmp 4)]),qq 8 (.call 12 [(.tmp 7)]),qq 9 (.bld [(.slice none 0 0),(.slice none 0 0)] [⟨0,⟨1,(.tmp 5)⟩⟩,⟨1,⟨1,(.tmp 8)⟩⟩]),qn (.st 2 (.tmp 2) (.tmp 9))])) (.leaf [qq 7 (.ld none (.tmp 6)),qq 4 (.ld none (.tmp 3)),qq 5 (.call 43 [(.tmp 4)]),qq 8 (.call 12 [(.tmp 7)]),qq 9 (.bld [(.slice none 0 0),(.slice none 0 0)] [⟨0,⟨1,(.tmp 5)⟩⟩,⟨1,⟨1,(.tmp 8)⟩⟩]),qn (.st 2 (.tmp 2) (.tmp 9))])))) .ret))
theorem k15:conv Tryz.prog 10 (Tryz.f15.body.getD .skip)=c15:=by kernel_rfl
theorem in15 {a0:Value} {w:World} {R:Value→World→Prop} (h:G Tryz.prog Tryz.f15 10 [.c c15] R (frL 0 [a0]) w):Ret Tryz.prog 15 #[a0] w R:=G.enter (args:=[a0]) Tryz.func15 (c:=Tryz.f15.body.getD .skip) (by kernel_rfl) (by kernel_rfl) (by simp) k15 h
theorem ref23_spec {vl vr:Value} {l:List Col} {rows:List (List Val)} {w:World} (h0:Rd w eC vl l) (h2:RdT w eVal vr rows) (hll:l.length≤1000000) (hl:rows.length≤1000000) (hrl:∀ i,i < rows.length→(rows.getD i []).length≤1000000) :
    Ret Tryz.prog 15 #[.agg #[vl,vr]] w fun res w'=>∃ a b us,res=.agg #[a,b]∧Sep w w' [accC a 150 eR (l.map toR),accC b 103 eV us,frzC eRv us rows]:=by
  refine in15 ?_
  have hS:=Sep.start w
  have oa:=h0.one
  have oa2:One vr:=by obtain ⟨vs,h,_⟩:=h2;exact h.one
  have hr1:=fun (w2:World) (hx:Ext w w2)=>ref_spec (w:=w2) (h0.ext hx) (by omega)
  have hr2:=fun (w2:World) (hx:Ext w w2)=>rows20_spec (w:=w2) ref17_spec (h2.ext hx) (by omega) (fun i hi=>by have:=hrl i hi;omega)
  repeat' (first|((with_reducible apply G.a);exact rfl)|refine G.reg fun K hK=>?_|(with_reducible (refine hK _ _ ?_);clear hK K)|(with_reducible (refine hK _ ?_);clear hK K;intro wd hxd;have hS:=Sep.xx hxd)|((first|have hk:=hK|have hk:=hK2);clear hk;simp (disch:=first|exact dis|fail) only [push_cast,↓reduceIte,zq1,zq2,zq3,zq4,zq5,fct])|((first|refine zalc ?_|((with_reducible refine gBox ?_);refine zbox ?_));intro gb wb hS)|((with_reducible refine gSt ?_);refine zs2 ?_;intro wb hS)|(refine zco 43 (hr1 _ hS.x) ?_;rintro vb wb hS2;have hS:=hS2.ap;simp only [apps] at hS)|(refine zco 12 (hr2 _ hS.x) ?_;rintro vb wb ⟨us,hS2⟩;have hS:=hS2.ap;simp only [apps] at hS)|(with_reducible refine And.intro (a:=OT _ _ _ _ _) (b:=OT _ _ _ _ _) ?_ ?_)|(refine G.drt mixed fun K hK wd hxd=>?_;have hS:=Sep.xx hxd)|with_reducible refine OT_leaf ?_|(with_reducible (refine hK2 _ ?_);clear hK2 K2;intro wd hxd;have hS:=Sep.xx hxd)|with_reducible refine OT_br fun K2 hK2=>?_|(refine hK2 _ _ ?_ ?_<;>clear hK2 K2)|refine G.drg mixed fun K hK=>?_)
  all_goals
    (first|refine G.r1 ?_|refine G.r2 ?_|refine G.r3 ?_|refine G.r0 ?_|refine G.d0 ?_);(try simp (disch:=first|exact dis|fail) only [push_cast,↓reduceIte,zq1,zq2,zq3,zq4,zq5,fct])
    exact ⟨_,_,us,rfl,(Sep.sub hS (by repeat first|exact Sub.rfl'|exact Sub.nil0|(refine Sub.c (by repeat constructor) ?_)|refine Sub.skip ?_))⟩
def countM (l:List (List Val)) (r:List Val):Nat:=l.countP (fun x=>decide (x=r))
def c42l1:MC:=(.seq (.reg [qq 11 (.bin .lss (.tmp 10) (.tmp 9))]) (.seq (.cond (.tmp 11) .skip (.exit 0)) (.seq (.blk 1 (.seq (.reg [qq 12 (.adr 1 (.tmp 8) (.tmp 10)),qq 13 (.ld none (.tmp 12)),qm 7 13]) (.seq (.reg [qm 14 7,qm 15 1,qq 16 (.call 33 [(.tmp 14),(.tmp 15)])]) (.cond (.tmp 16) (.reg [qm 17 5,qq 18 (.bin .add (.tmp 17) (ki 1)),qm 5 18]) .skip)))) (.reg [qq 19 (.bin .add (.tmp 10) (ki 1)),qm 10 19]))))
def c42:MC:=(.seq (.reg [qq 4 (.mv (ki 0))]) (.seq (.reg [qq 5 (.mv (ki 0))]) (.seq (.seq (.reg [qm 8 0,qq 9 (.len (.tmp 8)),qq 10 (.mv (ki 0))]) (.blk 0 (.loop c42l1))) (.seq (.reg [qm 20 5,qm 4 20]) .ret))))
theorem k42:conv Tryz.prog 21 (Tryz.f42.body.getD .skip)=c42:=by kernel_rfl
theorem in42 {a0 a1:Value} {w:World} {R:Value→World→Prop} (h:G Tryz.prog Tryz.f42 21 [.c c42] R (frL 0 [a0,a1]) w):Ret Tryz.prog 42 #[a0,a1] w R:=G.enter (args:=[a0,a1]) Tryz.func42 (c:=Tryz.f42.body.getD .skip) (by kernel_rfl) (by kernel_rfl) (by simp) k42 h
theorem count28_spec {va vr:Value} {t:List (List Val)} {r:List Val} {w:World} (ha:RdT w eRv va t) (hr:Rd w eRv vr r) (htl:t.length≤1000000):Pu Tryz.prog 42 #[va,vr] w (I (countM t r)):=by
  refine in42 ?_
  have hS:=Sep.start w
  obtain ⟨vs,g1,l1,i1⟩:=ha
  have hbd:=g1.bd
  repeat' (first|((with_reducible apply G.a);exact rfl)|refine G.reg fun K hK=>?_|(with_reducible (refine hK _ _ ?_);clear hK K)|(have hk:=hK;clear hk;simp (disch:=first|exact dis|fail) only [push_cast,↓reduceIte,zq1,zq2,zq3,zq4,zq5,fct])|(refine G.cn ?_ ?_<;>intro hc<;>first|(with_reducible exact False.elim hc)|(exfalso;omega)|skip))
  refine G.loop (fun r' w'=>∃ k:Nat,k≤vs.length∧r' 10=I k∧r' 9=I vs.length∧r' 8=va∧r' 1=vr∧r' 5=I (countM (t.take k) r)∧Sep w w' []) (fun r' _=>vs.length - toN (r' 10)) ?_ ?_
  · exact ⟨0,Nat.zero_le _,by exact sf,by exact sf,by exact sf,by exact sf,by exact sf,hS⟩
  · clear hS
    rintro u wl ⟨k,hk,q10,q9,q8,q1,q5,hS⟩ ih
    have hm:toN (u 10)=k:=by rw [q10];simp [toN]
    have h1k:=g1.ext hS.x
    by_cases hlt:(k:Int) < vs.length
    · have hst:countM (t.take (k+1)) r=countM (t.take k) r+(if t.getD k []=r then 1 else 0):=by
        unfold countM
        have h2:k < t.length:=by omega
        rw [List.take_succ_eq_append_getElem h2,List.countP_append,List.getD_eq_getElem?_getD,List.getElem?_eq_getElem h2]
        simp
      have hcb:countM (t.take k) r≤k:=Nat.le_trans List.countP_le_length (by rw [List.length_take];omega)
      have hsm:=fun (w2:World) (hx:Ext w w2)=>same20_spec (w:=w2) ((i1 k (by omega)).ext hx) (hr.ext hx)
      by_cases hq:t.getD k []=r
      · have hdq:decide (t.getD k []=r)=true:=decide_eq_true hq
        rw [if_pos hq] at hst
        (have fct:=(And.intro @q10 (And.intro @q9 (And.intro @q8 (And.intro @q1 (And.intro @q5 @hdq)))));repeat' (first|((with_reducible apply G.a);exact rfl)|refine G.reg fun K hK=>?_|(with_reducible (refine hK _ _ ?_);clear hK K)|(have hk:=hK;clear hk;simp (disch:=first|exact dis|fail) only [push_cast,↓reduceIte,zq1,zq2,zq3,zq4,zq5,fct])|(refine zcp 33 (hsm _ hS.x) ?_;intro wb hS)|(refine G.cn ?_ ?_<;>intro hc<;>first|(with_reducible exact False.elim hc)|(exfalso;omega)|skip)))<;>(try clear fct)
        all_goals
          have fct:=(And.intro @q10 (And.intro @q9 (And.intro @q8 (And.intro @q1 @q5))));refine ih _ _ ⟨k+1,by omega,by exact sf,by exact sf,by exact sf,by exact sf,by rw [hst];simp only [push_cast,↓reduceIte,zq1,zq2,zq3,zq4,zq5,q10,q9,q8,q1,q5],hS⟩ ?_
          rw [hm];simp only [push_cast,↓reduceIte,zq1,zq2,zq3,zq4,zq5,toN_i,q10,q9,q8,q1,q5];omega
      · have hdq:decide (t.getD k []=r)=false:=decide_eq_false hq
        rw [if_neg hq] at hst
        (have fct:=(And.intro @q10 (And.intro @q9 (And.intro @q8 (And.intro @q1 (And.intro @q5 @hdq)))));repeat' (first|((with_reducible apply G.a);exact rfl)|refine G.reg fun K hK=>?_|(with_reducible (refine hK _ _ ?_);clear hK K)|(have hk:=hK;clear hk;simp (disch:=first|exact dis|fail) only [push_cast,↓reduceIte,zq1,zq2,zq3,zq4,zq5,fct])|(refine zcp 33 (hsm _ hS.x) ?_;intro wb hS)|(refine G.cn ?_ ?_<;>intro hc<;>first|(with_reducible exact False.elim hc)|(exfalso;omega)|skip)))<;>(try clear fct)
        all_goals
          have fct:=(And.intro @q10 (And.intro @q9 (And.intro @q8 (And.intro @q1 @q5))));refine ih _ _ ⟨k+1,by omega,by exact sf,by exact sf,by exact sf,by exact sf,by rw [hst,Nat.add_zero];simp only [push_cast,↓reduceIte,zq1,zq2,zq3,zq4,zq5,q10,q9,q8,q1,q5],hS⟩ ?_
          rw [hm];simp only [push_cast,↓reduceIte,zq1,zq2,zq3,zq4,zq5,toN_i,q10,q9,q8,q1,q5];omega
    · (have fct:=(And.intro @q10 (And.intro @q9 (And.intro @q8 (And.intro @q1 @q5))));repeat' (first|((with_reducible apply G.a);exact rfl)|refine G.reg fun K hK=>?_|(with_reducible (refine hK _ _ ?_);clear hK K)|(have hk:=hK;clear hk;simp (disch:=first|exact dis|fail) only [push_cast,↓reduceIte,zq1,zq2,zq3,zq4,zq5,fct])|(refine G.cn ?_ ?_<;>intro hc<;>first|(with_reducible exact False.elim hc)|(exfalso;omega)|skip)))<;>(try clear fct)
      all_goals
        (have fct:=(And.intro @q10 (And.intro @q9 (And.intro @q8 (And.intro @q1 @q5))));(first|refine G.r1 ?_|refine G.r2 ?_|refine G.r3 ?_|refine G.r0 ?_|refine G.d0 ?_);(try simp (disch:=first|exact dis|fail) only [push_cast,↓reduceIte,zq1,zq2,zq3,zq4,zq5,fct]);(try clear fct))
        rw [List.take_of_length_le (by omega)]
        (first|exact Sep.xt (by assumption)|exact ⟨rfl,Sep.xt (by assumption)⟩)
def c14l1:MC:=(.seq (.reg [qq 26 (.bin .lss (.tmp 25) (.tmp 24))]) (.seq (.cond (.tmp 26) .skip (.exit 0)) (.seq (.blk 1 (.seq (.reg [qq 27 (.adr 1 (.tmp 23) (.tmp 25)),qq 28 (.ld none (.tmp 27)),qm 6 28]) (.seq (.drg [qq 29 (.fad 1 (.tmp 2)),qq 30 (.ld none (.tmp 29)),qm 31 6,qq 32 (.call 42 [(.tmp 30),(.tmp 31)]),qq 33 (.fad 1 (.tmp 3)),qq 34 (.ld none (.tmp 33)),qm 35 6,qq 36 (.call 42 [(.tmp 34),(.tmp 35)]),qq 37 (.bin .neq (.tmp 32) (.tmp 36))] (.some (.br [qq 29 (.fad 1 (.tmp 2)),qm 31 6,qq 33 (.fad 1 (.tmp 3)),qm 35 6] (.br [qq 30 (.ld none (.tmp 29))] (.leaf [qq 32 (.call 42 [(.tmp 30),(.tmp 31)]),qq 34 (.ld none (.tmp 33)),qq 36 (.call 42 [(.tmp 34),(.tmp 35)]),qq 37 (.bin .neq (.tmp 32) (.tmp 36))]) (.leaf [qq 34 (.ld none (.tmp 33)),qq 32 (.call 42 [(.tmp 30),(.tmp 31)]),qq 36 (.call 42 [(.tmp 34),(.tmp 35)]),qq 37 (.bin .neq (.tmp 32) (.tmp 36))])) (.leaf [qq 34 (.ld none (.tmp 33)),qq 30 (.ld none (.tmp 29)),qq 32 (.call 42 [(.tmp 30),(.tmp 31)]),qq 36 (.call 42 [(.tmp 34),(.tmp 35)]),qq 37 (.bin .neq (.tmp 32) (.tmp 36))])))) (.cond (.tmp 37) (.seq (.reg [qq 4 (.mv (kb false))]) .ret) .skip)))) (.reg [qq 38 (.bin .add (.tmp 25) (ki 1)),qm 25 38]))))
def c14:MC:=(.seq (.reg [qq 2 (.raw (.box 57 (.tmp 0)) 0),qq 3 (.raw (.box 57 (.tmp 1)) 0),qq 4 (.mv (kb false))]) (.seq (.seq (.reg [qq 7 (.fad 0 (.tmp 2)),qq 8 (.ld none (.tmp 7)),qq 9 (.fad 0 (.tmp 3)),qq 10 (.ld none (.tmp 9)),qq 11 (.call 41 [(.tmp 8),(.tmp 10)]),qq 12 (.un .not (.tmp 11)),qm 13 12,qf 13 14 (.fad 1 (.tmp 2)),qf 13 15 (.ld none (.tmp 14)),qf 13 16 (.len (.tmp 15)),qf 13 17 (.fad 1 (.tmp 3)),qf 13 18 (.ld none (.tmp 17)),qf 13 19 (.len (.tmp 18)),qf 13 20 (.bin .neq (.tmp 16) (.tmp 19)),qq 21 (.pick (.tmp 13) (kb true) (.tmp 20))]) (.cond (.tmp 21) (.seq (.reg [qq 4 (.mv (kb false))]) .ret) .skip)) (.seq (.seq (.reg [qq 22 (.fad 1 (.tmp 2)),qq 23 (.ld none (.tmp 22)),qq 24 (.len (.tmp 23)),qq 25 (.mv (ki 0))]) (.blk 0 (.loop c14l1))) (.seq (.reg [qq 4 (.mv (kb true))]) .ret))))
theorem k14:conv Tryz.prog 39 (Tryz.f14.body.getD .skip)=c14:=by kernel_rfl
theorem in14 {a0 a1:Value} {w:World} {R:Value→World→Prop} (h:G Tryz.prog Tryz.f14 39 [.c c14] R (frL 0 [a0,a1]) w):Ret Tryz.prog 14 #[a0,a1] w R:=G.enter (args:=[a0,a1]) Tryz.func14 (c:=Tryz.f14.body.getD .skip) (by kernel_rfl) (by kernel_rfl) (by simp) k14 h
theorem same28_spec {va ua vb ub:Value} {l:List RCol} {ra rb:List (List Val)} {w:World} (ha:Rd w eR va l) (ha2:RdT w eRv ua ra) (hb:Rd w eR vb l) (hb2:RdT w eRv ub rb) (hal:ra.length≤1000000) (hle:ra.length=rb.length) (hcn:∀ r∈ra,countM ra r=countM rb r) :
    Pu Tryz.prog 14 #[.agg #[va,ua],.agg #[vb,ub]] w (.bool true):=by
  refine in14 ?_
  have hS:=Sep.start w
  have oa:=ha.one
  have ob:=hb.one
  have oa2:One ua:=by obtain ⟨vs,h,_⟩:=ha2;exact h.one
  have ob2:One ub:=by obtain ⟨vs,h,_⟩:=hb2;exact h.one
  have hsm:=fun (w2:World) (hx:Ext w w2)=>rsame_spec (w:=w2) (ha.ext hx) (hb.ext hx)
  have hee:eqD l l=true:=eqD_t rfl
  rw [hee] at hsm
  have hca:=fun (w2:World) (v:Value) (r:List Val) (hx:Ext w w2) (hr:Rd w2 eRv v r)=>count28_spec (w:=w2) (ha2.ext hx) hr hal
  have hcb:=fun (w2:World) (v:Value) (r:List Val) (hx:Ext w w2) (hr:Rd w2 eRv v r)=>count28_spec (w:=w2) (hb2.ext hx) hr (by omega)
  obtain ⟨vs,g1,l1,i1⟩:=ha2
  obtain ⟨us,g2,l2,i2⟩:=hb2
  have hbd:=g1.bd
  have hbd2:=g2.bd
  have hlu:(us.length:Int)=vs.length:=by omega
  (have fct:=@hlu;repeat' (first|((with_reducible apply G.a);exact rfl)|refine G.reg fun K hK=>?_|(with_reducible (refine hK _ _ ?_);clear hK K)|(with_reducible (refine hK _ ?_);clear hK K;intro wd hxd;have hS:=Sep.xx hxd)|((first|have hk:=hK|have hk:=hK2);clear hk;simp (disch:=first|exact dis|fail) only [push_cast,↓reduceIte,zq1,zq2,zq3,zq4,zq5,fct])|((first|refine brO_n ?_ ?_|refine brQ_n ?_ ?_)<;>intro hb hc<;>first|(with_reducible exact False.elim hc)|(exfalso;omega)|(simp only [hb];clear hb))|(((with_reducible refine gBox ?_);refine zbox ?_);intro gb wb hS)|(refine zcp 41 (hsm _ hS.x) ?_;intro wb hS)|(refine G.drt mixed fun K hK wd hxd=>?_;have hS:=Sep.xx hxd)|with_reducible refine OT_leaf ?_|(with_reducible (refine hK2 _ ?_);clear hK2 K2;intro wd hxd;have hS:=Sep.xx hxd)|with_reducible refine OT_br fun K2 hK2=>?_|(refine hK2 _ _ ?_ ?_<;>clear hK2 K2)|refine G.drg mixed fun K hK=>?_|(refine G.cn ?_ ?_<;>intro hc<;>first|(with_reducible exact False.elim hc)|(exfalso;omega)|skip)))<;>(try clear fct)
  all_goals
  refine G.loop (fun r w'=>∃ (k g h:Nat),k≤vs.length∧r 25=I k∧r 24=I vs.length∧r 23=ua∧r 2=.pointer (some ⟨g,0,none⟩)∧r 3=.pointer (some ⟨h,0,none⟩)∧Sep w w' [boxC g 57 [va,ua],boxC h 57 [vb,ub]]) (fun r _=>vs.length - toN (r 25)) ?_ ?_
  · exact ⟨0,_,_,Nat.zero_le _,by exact sf,by exact sf,by exact sf,by exact sf,by exact sf,(Sep.sub hS (by repeat first|exact Sub.rfl'|exact Sub.nil0|(refine Sub.c (by repeat constructor) ?_)|refine Sub.skip ?_))⟩
  · clear hS
    rintro u wl ⟨k,g,h,hk,q25,q24,q23,q2,q3,hS⟩ ih
    have hm:toN (u 25)=k:=by rw [q25];simp [toN]
    have h1k:=g1.ext hS.x
    by_cases hlt:(k:Int) < vs.length
    · have hrk:=i1 k (by omega)
      have hck:=hcn _ (getD_mem ra k (by omega))
      have hd:ra.getD k default=ra.getD k []:=rfl
      rw [hd] at hck
      have hc1:=fun (w2:World) (hx:Ext w w2)=>hca w2 _ _ hx (hrk.ext hx)
      have hc2:=fun (w2:World) (hx:Ext w w2)=>hcb w2 _ _ hx (hrk.ext hx)
      rw [←hck] at hc2
      generalize countM ra (ra.getD k [])=n at hc1 hc2
      (have fct:=(And.intro @q25 (And.intro @q24 (And.intro @q23 (And.intro @q2 @q3))));repeat' (first|((with_reducible apply G.a);exact rfl)|refine G.reg fun K hK=>?_|(with_reducible (refine hK _ _ ?_);clear hK K)|(with_reducible (refine hK _ ?_);clear hK K;intro wd hxd;have hS:=Sep.xx hxd)|((first|have hk:=hK|have hk:=hK2);clear hk;simp (disch:=first|exact dis|fail) only [push_cast,↓reduceIte,zq1,zq2,zq3,zq4,zq5,fct])|((first|refine brO_n ?_ ?_|refine brQ_n ?_ ?_)<;>intro hb hc<;>first|(with_reducible exact False.elim hc)|(exfalso;omega)|(simp only [hb];clear hb))|(((with_reducible refine gBox ?_);refine zbox ?_);intro gb wb hS)|((with_reducible (show CallK _ 42 [ua,vs.getD k default] _ _ _ _));refine zcp 42 (hc1 _ hS.x) ?_;intro wb hS)|((with_reducible (show CallK _ 42 [ub,vs.getD k default] _ _ _ _));refine zcp 42 (hc2 _ hS.x) ?_;intro wb hS)|(with_reducible refine And.intro (a:=OT _ _ _ _ _) (b:=OT _ _ _ _ _) ?_ ?_)|(refine G.drt mixed fun K hK wd hxd=>?_;have hS:=Sep.xx hxd)|with_reducible refine OT_leaf ?_|(with_reducible (refine hK2 _ ?_);clear hK2 K2;intro wd hxd;have hS:=Sep.xx hxd)|with_reducible refine OT_br fun K2 hK2=>?_|(refine hK2 _ _ ?_ ?_<;>clear hK2 K2)|refine G.drg mixed fun K hK=>?_|(refine G.cn ?_ ?_<;>intro hc<;>first|(with_reducible exact False.elim hc)|(exfalso;omega)|skip)))<;>(try clear fct)
      all_goals
        have fct:=(And.intro @q25 (And.intro @q24 (And.intro @q23 (And.intro @q2 @q3))));refine ih _ _ ⟨k+1,g,h,by omega,by exact sf,by exact sf,by exact sf,by exact sf,by exact sf,hS⟩ ?_
        rw [hm];simp only [push_cast,↓reduceIte,zq1,zq2,zq3,zq4,zq5,toN_i,q25,q24,q23,q2,q3];omega
    · (have fct:=(And.intro @q25 (And.intro @q24 (And.intro @q23 (And.intro @q2 @q3))));repeat' (first|((with_reducible apply G.a);exact rfl)|refine G.reg fun K hK=>?_|(with_reducible (refine hK _ _ ?_);clear hK K)|(with_reducible (refine hK _ ?_);clear hK K;intro wd hxd;have hS:=Sep.xx hxd)|((first|have hk:=hK|have hk:=hK2);clear hk;simp (disch:=first|exact dis|fail) only [push_cast,↓reduceIte,zq1,zq2,zq3,zq4,zq5,fct])|((first|refine brO_n ?_ ?_|refine brQ_n ?_ ?_)<;>intro hb hc<;>first|(with_reducible exact False.elim hc)|(exfalso;omega)|(simp only [hb];clear hb))|(((with_reducible refine gBox ?_);refine zbox ?_);intro gb wb hS)|(refine G.drt mixed fun K hK wd hxd=>?_;have hS:=Sep.xx hxd)|with_reducible refine OT_leaf ?_|(with_reducible (refine hK2 _ ?_);clear hK2 K2;intro wd hxd;have hS:=Sep.xx hxd)|with_reducible refine OT_br fun K2 hK2=>?_|(refine hK2 _ _ ?_ ?_<;>clear hK2 K2)|refine G.drg mixed fun K hK=>?_|(refine G.cn ?_ ?_<;>intro hc<;>first|(with_reducible exact False.elim hc)|(exfalso;omega)|skip)))<;>(try clear fct)
      all_goals
        (have fct:=(And.intro @q25 (And.intro @q24 (And.intro @q23 (And.intro @q2 @q3))));(first|refine G.r1 ?_|refine G.r2 ?_|refine G.r3 ?_|refine G.r0 ?_|refine G.d0 ?_);(try simp (disch:=first|exact dis|fail) only [push_cast,↓reduceIte,zq1,zq2,zq3,zq4,zq5,fct]);(try clear fct))
        (first|exact Sep.xt (by assumption)|exact ⟨rfl,Sep.xt (by assumption)⟩)
end Go.Proofs.YtjajihaeoolefaaGreatDoor
