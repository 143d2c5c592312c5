/- Texts of the proof, joined. -/
import Derived.Test.YtjajihaeoolefaaGreatDoorBP20
import Derived.Test.YtjajihaeoolefaaGreatDoorBR02
namespace Go.Proofs.YtjajihaeoolefaaGreatDoor
open Nat renaming reduceAdd→zq1,reduceLeDiff→zq2,reduceEqDiff→zq3,reduceLT→zq4
open Int renaming reduceToNat→zq5
set_option linter.unusedSimpArgs false
set_option linter.unusedVariables false
attribute [local irreducible] SemK UnitK StK AlcK BslK CallK CallV Instr.box Builtin.append_ Instr.makeSlice Instr.makeMap Instr.lookup Instr.mapUpdate Instr.sliceAt convert
open Go.RowKit
def c23l1:MC:=(.seq (.reg [qq 14 (.bin .lss (.tmp 13) (.tmp 12))]) (.seq (.cond (.tmp 14) .skip (.exit 0)) (.seq (.blk 1 (.seq (.reg [qm 15 13,qm 5 15]) (.seq (.drg [qm 16 0,qm 17 5,qq 18 (.adr 4 (.tmp 16) (.tmp 17)),qq 19 (.ld (.some 4) (.tmp 18)),qm 20 1,qm 21 5,qq 22 (.adr 4 (.tmp 20) (.tmp 21)),qq 23 (.ld (.some 4) (.tmp 22)),qq 24 (.eqA true [.i,.s,.i,.b] (.tmp 19) (.tmp 23))] none) (.cond (.tmp 24) (.seq (.reg [qq 4 (.mv (kb false))]) .ret) .skip)))) (.reg [qq 25 (.bin .add (.tmp 13) (ki 1)),qm 13 25]))))
def c23:MC:=(.seq (.reg [qq 4 (.mv (kb false))]) (.seq (.seq (.reg [qm 6 0,qq 7 (.len (.tmp 6)),qm 8 1,qq 9 (.len (.tmp 8)),qq 10 (.bin .neq (.tmp 7) (.tmp 9))]) (.cond (.tmp 10) (.seq (.reg [qq 4 (.mv (kb false))]) .ret) .skip)) (.seq (.seq (.reg [qm 11 0,qq 12 (.len (.tmp 11)),qq 13 (.mv (ki 0))]) (.blk 0 (.loop c23l1))) (.seq (.reg [qq 4 (.mv (kb true))]) .ret))))
theorem k23:conv Tryz.prog 26 (Tryz.f23.body.getD .skip)=c23:=by kernel_rfl
theorem in23 {a0 a1:Value} {w:World} {R:Value→World→Prop} (h:G Tryz.prog Tryz.f23 26 [.c c23] R (frL 0 [a0,a1]) w):Ret Tryz.prog 23 #[a0,a1] w R:=G.enter (args:=[a0,a1]) Tryz.func23 (c:=Tryz.f23.body.getD .skip) (by kernel_rfl) (by kernel_rfl) (by simp) k23 h
theorem eqV_spec {va vb:Value} {a b:List Val} {w:World} (h1:Rd w eVal va a) (h2:Rd w eVal vb b):Pu Tryz.prog 23 #[va,vb] w (.bool (decide (a=b))):=by
  refine in23 ?_
  have hS:=Sep.start w
  have hbd:=h1.bd
  have hbd2:=h2.bd
  by_cases hl:(a.length:Int)=b.length
  rotate_left
  · (have fct:=@hl;repeat' (first|((with_reducible apply G.a);exact rfl)|refine G.reg fun K hK=>?_|(with_reducible (refine hK _ _ ?_);clear hK K)|(with_reducible (refine hK _ ?_);clear hK K;intro wd hxd;have hS:=Sep.xx hxd)|(have hk:=hK;clear hk;simp (disch:=first|exact dis|fail) only [push_cast,↓reduceIte,zq1,zq2,zq3,zq4,zq5,fct])|refine G.drg mixed fun K hK=>?_|(refine G.cn ?_ ?_<;>intro hc<;>first|(with_reducible exact False.elim hc)|(exfalso;omega)|skip)))<;>(try clear fct)
    all_goals
      (first|refine G.r1 ?_|refine G.r2 ?_|refine G.r3 ?_|refine G.r0 ?_|refine G.d0 ?_);(try simp (disch:=first|exact dis|fail) only [push_cast,↓reduceIte,zq1,zq2,zq3,zq4,zq5,fct])
      exact ⟨by rw [decide_eq_false (fun h=>hl (by rw [h]))],Sep.xt (by assumption)⟩
  · (have fct:=@hl;repeat' (first|((with_reducible apply G.a);exact rfl)|refine G.reg fun K hK=>?_|(with_reducible (refine hK _ _ ?_);clear hK K)|(with_reducible (refine hK _ ?_);clear hK K;intro wd hxd;have hS:=Sep.xx hxd)|(have hk:=hK;clear hk;simp (disch:=first|exact dis|fail) only [push_cast,↓reduceIte,zq1,zq2,zq3,zq4,zq5,fct])|refine G.drg mixed fun K hK=>?_|(refine G.cn ?_ ?_<;>intro hc<;>first|(with_reducible exact False.elim hc)|(exfalso;omega)|skip)))<;>(try clear fct)
    refine G.loop (fun r w'=>∃ k:Nat,k≤a.length∧r 13=I k∧r 12=I a.length∧r 0=va∧r 1=vb∧a.take k=b.take k∧Sep w w' []) (fun r _=>a.length - toN (r 13)) ?_ ?_
    · have fct:=@hl;exact ⟨0,Nat.zero_le _,by exact sf,by exact sf,by exact sf,by exact sf,rfl,hS⟩
    · clear hS
      rintro u wl ⟨k,hk,q13,q12,q0,q1,e,hS⟩ ih
      have hm:toN (u 13)=k:=by rw [q13];simp [toN]
      by_cases hlt:(k:Int) < a.length
      · have hlb:(k:Int) < b.length:=by omega
        have h1k:=h1.ext hS.x
        have h2k:=h2.ext hS.x
        by_cases hv:a.getD k default=b.getD k default
        · (have fct:=(And.intro @q13 (And.intro @q12 (And.intro @q0 (And.intro @q1 @hv))));repeat' (first|((with_reducible apply G.a);exact rfl)|refine G.reg fun K hK=>?_|(with_reducible (refine hK _ _ ?_);clear hK K)|(with_reducible (refine hK _ ?_);clear hK K;intro wd hxd;have hS:=Sep.xx hxd)|(have hk:=hK;clear hk;simp (disch:=first|exact dis|fail) only [push_cast,↓reduceIte,zq1,zq2,zq3,zq4,zq5,fct])|refine G.drg mixed fun K hK=>?_|(refine G.cn ?_ ?_<;>intro hc<;>first|(with_reducible exact False.elim hc)|(exfalso;omega)|skip)))<;>(try clear fct)
          all_goals
            have fct:=(And.intro @q13 (And.intro @q12 (And.intro @q0 @q1)));refine ih _ _ ⟨k+1,by omega,by exact sf,by exact sf,by exact sf,by exact sf,row_step a b k (by omega) (by omega) e hv,hS⟩ ?_
            rw [hm];simp only [push_cast,↓reduceIte,zq1,zq2,zq3,zq4,zq5,toN_i,q13,q12,q0,q1];omega
        · (have fct:=(And.intro @q13 (And.intro @q12 (And.intro @q0 @q1)));repeat' (first|((with_reducible apply G.a);exact rfl)|refine G.reg fun K hK=>?_|(with_reducible (refine hK _ _ ?_);clear hK K)|(with_reducible (refine hK _ ?_);clear hK K;intro wd hxd;have hS:=Sep.xx hxd)|(have hk:=hK;clear hk;simp (disch:=first|exact dis|fail) only [push_cast,↓reduceIte,zq1,zq2,zq3,zq4,zq5,fct])|refine G.drg mixed fun K hK=>?_|(refine G.cn ?_ ?_<;>intro hc<;>first|(with_reducible exact False.elim hc)|(exfalso;omega)|skip)))<;>(try clear fct)
          all_goals first
            | exact absurd ((val_eq _ _).2 (by assumption)) hv
            | ((have fct:=(And.intro @q13 (And.intro @q12 (And.intro @q0 @q1)));(first|refine G.r1 ?_|refine G.r2 ?_|refine G.r3 ?_|refine G.r0 ?_|refine G.d0 ?_);(try simp (disch:=first|exact dis|fail) only [push_cast,↓reduceIte,zq1,zq2,zq3,zq4,zq5,fct]);(try clear fct));exact ⟨by rw [decide_eq_false (fun h=>hv (by rw [h]))],Sep.xt (by assumption)⟩)
      · (have fct:=(And.intro @q13 (And.intro @q12 (And.intro @q0 @q1)));repeat' (first|((with_reducible apply G.a);exact rfl)|refine G.reg fun K hK=>?_|(with_reducible (refine hK _ _ ?_);clear hK K)|(with_reducible (refine hK _ ?_);clear hK K;intro wd hxd;have hS:=Sep.xx hxd)|(have hk:=hK;clear hk;simp (disch:=first|exact dis|fail) only [push_cast,↓reduceIte,zq1,zq2,zq3,zq4,zq5,fct])|refine G.drg mixed fun K hK=>?_|(refine G.cn ?_ ?_<;>intro hc<;>first|(with_reducible exact False.elim hc)|(exfalso;omega)|skip)))<;>(try clear fct)
        all_goals
          (have fct:=(And.intro @q13 (And.intro @q12 (And.intro @q0 @q1)));(first|refine G.r1 ?_|refine G.r2 ?_|refine G.r3 ?_|refine G.r0 ?_|refine G.d0 ?_);(try simp (disch:=first|exact dis|fail) only [push_cast,↓reduceIte,zq1,zq2,zq3,zq4,zq5,fct]);(try clear fct))
          refine ⟨?_,Sep.xt (by assumption)⟩
          rw [List.take_of_length_le (by omega),List.take_of_length_le (by omega)] at e
          rw [decide_eq_true e]
def c33l1:MC:=(.seq (.reg [qq 14 (.bin .lss (.tmp 13) (.tmp 12))]) (.seq (.cond (.tmp 14) .skip (.exit 0)) (.seq (.blk 1 (.seq (.reg [qm 15 13,qm 5 15]) (.seq (.drg [qm 16 0,qm 17 5,qq 18 (.adr 4 (.tmp 16) (.tmp 17)),qq 19 (.ld (.some 4) (.tmp 18)),qm 20 1,qm 21 5,qq 22 (.adr 4 (.tmp 20) (.tmp 21)),qq 23 (.ld (.some 4) (.tmp 22)),qq 24 (.eqA true [.i,.s,.i,.i] (.tmp 19) (.tmp 23))] none) (.cond (.tmp 24) (.seq (.reg [qq 4 (.mv (kb false))]) .ret) .skip)))) (.reg [qq 25 (.bin .add (.tmp 13) (ki 1)),qm 13 25]))))
def c33:MC:=(.seq (.reg [qq 4 (.mv (kb false))]) (.seq (.seq (.reg [qm 6 0,qq 7 (.len (.tmp 6)),qm 8 1,qq 9 (.len (.tmp 8)),qq 10 (.bin .neq (.tmp 7) (.tmp 9))]) (.cond (.tmp 10) (.seq (.reg [qq 4 (.mv (kb false))]) .ret) .skip)) (.seq (.seq (.reg [qm 11 0,qq 12 (.len (.tmp 11)),qq 13 (.mv (ki 0))]) (.blk 0 (.loop c33l1))) (.seq (.reg [qq 4 (.mv (kb true))]) .ret))))
theorem k33:conv Tryz.prog 26 (Tryz.f33.body.getD .skip)=c33:=by kernel_rfl
theorem in33 {a0 a1:Value} {w:World} {R:Value→World→Prop} (h:G Tryz.prog Tryz.f33 26 [.c c33] R (frL 0 [a0,a1]) w):Ret Tryz.prog 33 #[a0,a1] w R:=G.enter (args:=[a0,a1]) Tryz.func33 (c:=Tryz.f33.body.getD .skip) (by kernel_rfl) (by kernel_rfl) (by simp) k33 h
theorem same20_spec {va vb:Value} {a b:List Val} {w:World} (h1:Rd w eRv va a) (h2:Rd w eRv vb b):Pu Tryz.prog 33 #[va,vb] w (.bool (decide (a=b))):=by
  refine in33 ?_
  have hS:=Sep.start w
  have hbd:=h1.bd
  have hbd2:=h2.bd
  by_cases hl:(a.length:Int)=b.length
  rotate_left
  · (have fct:=@hl;repeat' (first|((with_reducible apply G.a);exact rfl)|refine G.reg fun K hK=>?_|(with_reducible (refine hK _ _ ?_);clear hK K)|(with_reducible (refine hK _ ?_);clear hK K;intro wd hxd;have hS:=Sep.xx hxd)|(have hk:=hK;clear hk;simp (disch:=first|exact dis|fail) only [push_cast,↓reduceIte,zq1,zq2,zq3,zq4,zq5,fct])|refine G.drg mixed fun K hK=>?_|(refine G.cn ?_ ?_<;>intro hc<;>first|(with_reducible exact False.elim hc)|(exfalso;omega)|skip)))<;>(try clear fct)
    all_goals
      (first|refine G.r1 ?_|refine G.r2 ?_|refine G.r3 ?_|refine G.r0 ?_|refine G.d0 ?_);(try simp (disch:=first|exact dis|fail) only [push_cast,↓reduceIte,zq1,zq2,zq3,zq4,zq5,fct])
      exact ⟨by rw [decide_eq_false (fun h=>hl (by rw [h]))],Sep.xt (by assumption)⟩
  · (have fct:=@hl;repeat' (first|((with_reducible apply G.a);exact rfl)|refine G.reg fun K hK=>?_|(with_reducible (refine hK _ _ ?_);clear hK K)|(with_reducible (refine hK _ ?_);clear hK K;intro wd hxd;have hS:=Sep.xx hxd)|(have hk:=hK;clear hk;simp (disch:=first|exact dis|fail) only [push_cast,↓reduceIte,zq1,zq2,zq3,zq4,zq5,fct])|refine G.drg mixed fun K hK=>?_|(refine G.cn ?_ ?_<;>intro hc<;>first|(with_reducible exact False.elim hc)|(exfalso;omega)|skip)))<;>(try clear fct)
    refine G.loop (fun r w'=>∃ k:Nat,k≤a.length∧r 13=I k∧r 12=I a.length∧r 0=va∧r 1=vb∧a.take k=b.take k∧Sep w w' []) (fun r _=>a.length - toN (r 13)) ?_ ?_
    · have fct:=@hl;exact ⟨0,Nat.zero_le _,by exact sf,by exact sf,by exact sf,by exact sf,rfl,hS⟩
    · clear hS
      rintro u wl ⟨k,hk,q13,q12,q0,q1,e,hS⟩ ih
      have hm:toN (u 13)=k:=by rw [q13];simp [toN]
      by_cases hlt:(k:Int) < a.length
      · have hlb:(k:Int) < b.length:=by omega
        have h1k:=h1.ext hS.x
        have h2k:=h2.ext hS.x
        by_cases hv:a.getD k default=b.getD k default
        · (have fct:=(And.intro @q13 (And.intro @q12 (And.intro @q0 (And.intro @q1 @hv))));repeat' (first|((with_reducible apply G.a);exact rfl)|refine G.reg fun K hK=>?_|(with_reducible (refine hK _ _ ?_);clear hK K)|(with_reducible (refine hK _ ?_);clear hK K;intro wd hxd;have hS:=Sep.xx hxd)|(have hk:=hK;clear hk;simp (disch:=first|exact dis|fail) only [push_cast,↓reduceIte,zq1,zq2,zq3,zq4,zq5,fct])|refine G.drg mixed fun K hK=>?_|(refine G.cn ?_ ?_<;>intro hc<;>first|(with_reducible exact False.elim hc)|(exfalso;omega)|skip)))<;>(try clear fct)
          all_goals
            have fct:=(And.intro @q13 (And.intro @q12 (And.intro @q0 @q1)));refine ih _ _ ⟨k+1,by omega,by exact sf,by exact sf,by exact sf,by exact sf,row_step a b k (by omega) (by omega) e hv,hS⟩ ?_
            rw [hm];simp only [push_cast,↓reduceIte,zq1,zq2,zq3,zq4,zq5,toN_i,q13,q12,q0,q1];omega
        · (have fct:=(And.intro @q13 (And.intro @q12 (And.intro @q0 @q1)));repeat' (first|((with_reducible apply G.a);exact rfl)|refine G.reg fun K hK=>?_|(with_reducible (refine hK _ _ ?_);clear hK K)|(with_reducible (refine hK _ ?_);clear hK K;intro wd hxd;have hS:=Sep.xx hxd)|(have hk:=hK;clear hk;simp (disch:=first|exact dis|fail) only [push_cast,↓reduceIte,zq1,zq2,zq3,zq4,zq5,fct])|refine G.drg mixed fun K hK=>?_|(refine G.cn ?_ ?_<;>intro hc<;>first|(with_reducible exact False.elim hc)|(exfalso;omega)|skip)))<;>(try clear fct)
          all_goals first
            | exact absurd (rval_eq (by assumption)) hv
            | ((have fct:=(And.intro @q13 (And.intro @q12 (And.intro @q0 @q1)));(first|refine G.r1 ?_|refine G.r2 ?_|refine G.r3 ?_|refine G.r0 ?_|refine G.d0 ?_);(try simp (disch:=first|exact dis|fail) only [push_cast,↓reduceIte,zq1,zq2,zq3,zq4,zq5,fct]);(try clear fct));exact ⟨by rw [decide_eq_false (fun h=>hv (by rw [h]))],Sep.xt (by assumption)⟩)
      · (have fct:=(And.intro @q13 (And.intro @q12 (And.intro @q0 @q1)));repeat' (first|((with_reducible apply G.a);exact rfl)|refine G.reg fun K hK=>?_|(with_reducible (refine hK _ _ ?_);clear hK K)|(with_reducible (refine hK _ ?_);clear hK K;intro wd hxd;have hS:=Sep.xx hxd)|(have hk:=hK;clear hk;simp (disch:=first|exact dis|fail) only [push_cast,↓reduceIte,zq1,zq2,zq3,zq4,zq5,fct])|refine G.drg mixed fun K hK=>?_|(refine G.cn ?_ ?_<;>intro hc<;>first|(with_reducible exact False.elim hc)|(exfalso;omega)|skip)))<;>(try clear fct)
        all_goals
          (have fct:=(And.intro @q13 (And.intro @q12 (And.intro @q0 @q1)));(first|refine G.r1 ?_|refine G.r2 ?_|refine G.r3 ?_|refine G.r0 ?_|refine G.d0 ?_);(try simp (disch:=first|exact dis|fail) only [push_cast,↓reduceIte,zq1,zq2,zq3,zq4,zq5,fct]);(try clear fct))
          refine ⟨?_,Sep.xt (by assumption)⟩
          rw [List.take_of_length_le (by omega),List.take_of_length_le (by omega)] at e
          rw [decide_eq_true e]
def c11l1:MC:=(.seq (.reg [qq 14 (.bin .lss (.tmp 13) (.tmp 12))]) (.seq (.cond (.tmp 14) .skip (.exit 0)) (.seq (.blk 1 (.seq (.reg [qm 15 13,qm 5 15]) (.seq (.drg [qm 16 0,qm 17 5,qq 18 (.adr 1 (.tmp 16) (.tmp 17)),qq 19 (.ld none (.tmp 18)),qm 20 1,qm 21 5,qq 22 (.adr 1 (.tmp 20) (.tmp 21)),qq 23 (.ld none (.tmp 22)),qq 24 (.call 33 [(.tmp 19),(.tmp 23)]),qq 25 (.un .not (.tmp 24))] (.some (.br [qm 16 0,qm 17 5,qq 18 (.adr 1 (.tmp 16) (.tmp 17)),qm 20 1,qm 21 5,qq 22 (.adr 1 (.tmp 20) (.tmp 21))] (.leaf [qq 19 (.ld none (.tmp 18)),qq 23 (.ld none (.tmp 22)),qq 24 (.call 33 [(.tmp 19),(.tmp 23)]),qq 25 (.un .not (.tmp 24))]) (.leaf [qq 23 (.ld none (.tmp 22)),qq 19 (.ld none (.tmp 18)),qq 24 (.call 33 [(.tmp 19),(.tmp 23)]),qq 25 (.un .not (.tmp 24))])))) (.cond (.tmp 25) (.seq (.reg [qq 4 (.mv (kb false))]) .ret) .skip)))) (.reg [qq 26 (.bin .add (.tmp 13) (ki 1)),qm 13 26]))))
def c11:MC:=(.seq (.reg [qq 4 (.mv (kb false))]) (.seq (.seq (.reg [qm 6 0,qq 7 (.len (.tmp 6)),qm 8 1,qq 9 (.len (.tmp 8)),qq 10 (.bin .neq (.tmp 7) (.tmp 9))]) (.cond (.tmp 10) (.seq (.reg [qq 4 (.mv (kb false))]) .ret) .skip)) (.seq (.seq (.reg [qm 11 0,qq 12 (.len (.tmp 11)),qq 13 (.mv (ki 0))]) (.blk 0 (.loop c11l1))) (.seq (.reg [qq 4 (.mv (kb true))]) .ret))))
theorem k11:conv Tryz.prog 27 (Tryz.f11.body.getD .skip)=c11:=by kernel_rfl
theorem in11 {a0 a1:Value} {w:World} {R:Value→World→Prop} (h:G Tryz.prog Tryz.f11 27 [.c c11] R (frL 0 [a0,a1]) w):Ret Tryz.prog 11 #[a0,a1] w R:=G.enter (args:=[a0,a1]) Tryz.func11 (c:=Tryz.f11.body.getD .skip) (by kernel_rfl) (by kernel_rfl) (by simp) k11 h
theorem all20_spec {va vb:Value} {a b:List (List Val)} {w:World} (ha:RdT w eRv va a) (hb:RdT w eRv vb b):Pu Tryz.prog 11 #[va,vb] w (.bool (decide (a=b))):=by
  refine in11 ?_
  have hS:=Sep.start w
  obtain ⟨vs,h1,l1,i1⟩:=ha
  obtain ⟨us,h2,l2,i2⟩:=hb
  have hbd:=h1.bd
  have hbd2:=h2.bd
  by_cases hl:(vs.length:Int)=us.length
  rotate_left
  · (have fct:=@hl;repeat' (first|((with_reducible apply G.a);exact rfl)|refine G.reg fun K hK=>?_|(with_reducible (refine hK _ _ ?_);clear hK K)|(with_reducible (refine hK _ ?_);clear hK K;intro wd hxd;have hS:=Sep.xx hxd)|((first|have hk:=hK|have hk:=hK2);clear hk;simp (disch:=first|exact dis|fail) only [push_cast,↓reduceIte,zq1,zq2,zq3,zq4,zq5,fct])|(refine G.drt mixed fun K hK wd hxd=>?_;have hS:=Sep.xx hxd)|with_reducible refine OT_leaf ?_|(with_reducible (refine hK2 _ ?_);clear hK2 K2;intro wd hxd;have hS:=Sep.xx hxd)|with_reducible refine OT_br fun K2 hK2=>?_|(refine hK2 _ _ ?_ ?_<;>clear hK2 K2)|refine G.drg mixed fun K hK=>?_|(refine G.cn ?_ ?_<;>intro hc<;>first|(with_reducible exact False.elim hc)|(exfalso;omega)|skip)))<;>(try clear fct)
    all_goals
      (first|refine G.r1 ?_|refine G.r2 ?_|refine G.r3 ?_|refine G.r0 ?_|refine G.d0 ?_);(try simp (disch:=first|exact dis|fail) only [push_cast,↓reduceIte,zq1,zq2,zq3,zq4,zq5,fct])
      exact ⟨by rw [decide_eq_false (fun h=>hl (by rw [l1,l2,h]))],Sep.xt (by assumption)⟩
  · (have fct:=@hl;repeat' (first|((with_reducible apply G.a);exact rfl)|refine G.reg fun K hK=>?_|(with_reducible (refine hK _ _ ?_);clear hK K)|(with_reducible (refine hK _ ?_);clear hK K;intro wd hxd;have hS:=Sep.xx hxd)|((first|have hk:=hK|have hk:=hK2);clear hk;simp (disch:=first|exact dis|fail) only [push_cast,↓reduceIte,zq1,zq2,zq3,zq4,zq5,fct])|(refine G.drt mixed fun K hK wd hxd=>?_;have hS:=Sep.xx hxd)|with_reducible refine OT_leaf ?_|(with_reducible (refine hK2 _ ?_);clear hK2 K2;intro wd hxd;have hS:=Sep.xx hxd)|with_reducible refine OT_br fun K2 hK2=>?_|(refine hK2 _ _ ?_ ?_<;>clear hK2 K2)|refine G.drg mixed fun K hK=>?_|(refine G.cn ?_ ?_<;>intro hc<;>first|(with_reducible exact False.elim hc)|(exfalso;omega)|skip)))<;>(try clear fct)
    refine G.loop (fun r w'=>∃ k:Nat,k≤vs.length∧r 13=I k∧r 12=I vs.length∧r 0=va∧r 1=vb∧a.take k=b.take k∧Sep w w' []) (fun r _=>vs.length - toN (r 13)) ?_ ?_
    · have fct:=@hl;exact ⟨0,Nat.zero_le _,by exact sf,by exact sf,by exact sf,by exact sf,rfl,hS⟩
    · clear hS
      rintro u wl ⟨k,hk,q13,q12,q0,q1,e,hS⟩ ih
      have hm:toN (u 13)=k:=by rw [q13];simp [toN]
      by_cases hlt:(k:Int) < vs.length
      · have hlb:(k:Int) < us.length:=by omega
        have hcs2:∀ w2,Ext w w2→Pu Tryz.prog 33 #[vs.getD k default,us.getD k default] w2 (.bool (decide (a.getD k []=b.getD k []))):=fun w2 hx=>same20_spec ((i1 k (by omega)).ext hx) ((i2 k (by omega)).ext hx)
        by_cases hv:a.getD k []=b.getD k []
        · (have fct:=(And.intro @q13 (And.intro @q12 (And.intro @q0 (And.intro @q1 @hv))));repeat' (first|((with_reducible apply G.a);exact rfl)|refine G.reg fun K hK=>?_|(with_reducible (refine hK _ _ ?_);clear hK K)|(with_reducible (refine hK _ ?_);clear hK K;intro wd hxd;have hS:=Sep.xx hxd)|((first|have hk:=hK|have hk:=hK2);clear hk;simp (disch:=first|exact dis|fail) only [push_cast,↓reduceIte,zq1,zq2,zq3,zq4,zq5,fct])|(refine zcp 33 (hcs2 _ (Sep.xt (by assumption))) ?_;intro wb hS)|(refine G.drt mixed fun K hK wd hxd=>?_;have hS:=Sep.xx hxd)|with_reducible refine OT_leaf ?_|(with_reducible (refine hK2 _ ?_);clear hK2 K2;intro wd hxd;have hS:=Sep.xx hxd)|with_reducible refine OT_br fun K2 hK2=>?_|(refine hK2 _ _ ?_ ?_<;>clear hK2 K2)|refine G.drg mixed fun K hK=>?_|(refine G.cn ?_ ?_<;>intro hc<;>first|(with_reducible exact False.elim hc)|(exfalso;omega)|skip)))<;>(try clear fct)
          all_goals
            have fct:=(And.intro @q13 (And.intro @q12 (And.intro @q0 @q1)));refine ih _ _ ⟨k+1,by omega,by exact sf,by exact sf,by exact sf,by exact sf,row_step a b k (by omega) (by omega) e hv,hS⟩ ?_
            rw [hm];simp only [push_cast,↓reduceIte,zq1,zq2,zq3,zq4,zq5,toN_i,q13,q12,q0,q1];omega
        · (have fct:=(And.intro @q13 (And.intro @q12 (And.intro @q0 (And.intro @q1 @hv))));repeat' (first|((with_reducible apply G.a);exact rfl)|refine G.reg fun K hK=>?_|(with_reducible (refine hK _ _ ?_);clear hK K)|(with_reducible (refine hK _ ?_);clear hK K;intro wd hxd;have hS:=Sep.xx hxd)|((first|have hk:=hK|have hk:=hK2);clear hk;simp (disch:=first|exact dis|fail) only [push_cast,↓reduceIte,zq1,zq2,zq3,zq4,zq5,fct])|(refine zcp 33 (hcs2 _ (Sep.xt (by assumption))) ?_;intro wb hS)|(refine G.drt mixed fun K hK wd hxd=>?_;have hS:=Sep.xx hxd)|with_reducible refine OT_leaf ?_|(with_reducible (refine hK2 _ ?_);clear hK2 K2;intro wd hxd;have hS:=Sep.xx hxd)|with_reducible refine OT_br fun K2 hK2=>?_|(refine hK2 _ _ ?_ ?_<;>clear hK2 K2)|refine G.drg mixed fun K hK=>?_|(refine G.cn ?_ ?_<;>intro hc<;>first|(with_reducible exact False.elim hc)|(exfalso;omega)|skip)))<;>(try clear fct)
          all_goals
            (have fct:=(And.intro @q13 (And.intro @q12 (And.intro @q0 @q1)));(first|refine G.r1 ?_|refine G.r2 ?_|refine G.r3 ?_|refine G.r0 ?_|refine G.d0 ?_);(try simp (disch:=first|exact dis|fail) only [push_cast,↓reduceIte,zq1,zq2,zq3,zq4,zq5,fct]);(try clear fct))
            exact ⟨by rw [decide_eq_false (fun h=>hv (by rw [h]))],Sep.xt (by assumption)⟩
      · (have fct:=(And.intro @q13 (And.intro @q12 (And.intro @q0 @q1)));repeat' (first|((with_reducible apply G.a);exact rfl)|refine G.reg fun K hK=>?_|(with_reducible (refine hK _ _ ?_);clear hK K)|(with_reducible (refine hK _ ?_);clear hK K;intro wd hxd;have hS:=Sep.xx hxd)|((first|have hk:=hK|have hk:=hK2);clear hk;simp (disch:=first|exact dis|fail) only [push_cast,↓reduceIte,zq1,zq2,zq3,zq4,zq5,fct])|(refine G.drt mixed fun K hK wd hxd=>?_;have hS:=Sep.xx hxd)|with_reducible refine OT_leaf ?_|(with_reducible (refine hK2 _ ?_);clear hK2 K2;intro wd hxd;have hS:=Sep.xx hxd)|with_reducible refine OT_br fun K2 hK2=>?_|(refine hK2 _ _ ?_ ?_<;>clear hK2 K2)|refine G.drg mixed fun K hK=>?_|(refine G.cn ?_ ?_<;>intro hc<;>first|(with_reducible exact False.elim hc)|(exfalso;omega)|skip)))<;>(try clear fct)
        all_goals
          (have fct:=(And.intro @q13 (And.intro @q12 (And.intro @q0 @q1)));(first|refine G.r1 ?_|refine G.r2 ?_|refine G.r3 ?_|refine G.r0 ?_|refine G.d0 ?_);(try simp (disch:=first|exact dis|fail) only [push_cast,↓reduceIte,zq1,zq2,zq3,zq4,zq5,fct]);(try clear fct))
          refine ⟨?_,Sep.xt (by assumption)⟩
          rw [List.take_of_length_le (by omega),List.take_of_length_le (by omega)] at e
          rw [decide_eq_true e]
end Go.Proofs.YtjajihaeoolefaaGreatDoor
namespace Go.Proofs.YtjajihaeoolefaaGreatDoor
open Nat renaming reduceAdd→zq1,reduceLeDiff→zq2,reduceEqDiff→zq3,reduceLT→zq4
open Int renaming reduceToNat→zq5
set_option linter.unusedSimpArgs false
set_option linter.unusedVariables false
attribute [local irreducible] SemK UnitK StK AlcK BslK CallK CallV Instr.box Builtin.append_ Instr.makeSlice Instr.makeMap Instr.lookup Instr.mapUpdate Instr.sliceAt convert
open Go.RowKit
def shortR (r:List Val):Bool:=decide (r.length≤12) && r.all (fun v=>decide (v.s.length≤40))
theorem shortR_len {l:List Val} (h:shortR l=true):l.length≤12∧∀ v∈l,v.s.length≤40:=by
  unfold shortR at h
  rw [Bool.and_eq_true,decide_eq_true_eq,List.all_eq_true] at h
  exact ⟨h.1,fun c hc=>of_decide_eq_true (h.2 c hc)⟩
def smallM (t:List (List Val)):Bool:=decide (t.length≤12) && t.all shortR
theorem all_step {α:Type} [Inhabited α] (p:α→Bool) (l:List α) (k:Nat) (h:(k:Int) < l.length):(l.drop k).all p=(p (l.getD k default) && (l.drop (k+1)).all p):=by
  have h2:k < l.length:=by omega
  rw [List.drop_eq_getElem_cons h2]
  rw [List.all_cons,List.getD_eq_getElem?_getD,List.getElem?_eq_getElem h2]
  rfl
def c45l1:MC:=(.seq (.reg [qq 19 (.bin .lss (.tmp 18) (.tmp 17))]) (.seq (.cond (.tmp 19) .skip (.exit 2)) (.seq (.blk 3 (.seq (.reg [qq 20 (.adr 4 (.tmp 16) (.tmp 18)),qq 21 (.ld (.some 4) (.tmp 20)),qq 6 (.alc 84 [(.int .i64 0),(S []),(.int .i64 0),(.bool false)]),qn (.st 4 (.tmp 6) (.tmp 21))]) (.seq (.reg [qq 22 (.fad 1 (.tmp 6)),qq 23 (.ld none (.tmp 22)),qq 24 (.lenS (.tmp 23)),qq 25 (.bin .gtr (.tmp 24) (ki 40))]) (.cond (.tmp 25) (.seq (.reg [qq 2 (.mv (kb false))]) .ret) .skip)))) (.reg [qq 26 (.bin .add (.tmp 18) (ki 1)),qm 18 26]))))
def c45l2:MC:=(.seq (.reg [qq 10 (.bin .lss (.tmp 9) (.tmp 8))]) (.seq (.cond (.tmp 10) .skip (.exit 0)) (.seq (.blk 1 (.seq (.reg [qq 11 (.adr 1 (.tmp 7) (.tmp 9)),qq 12 (.ld none (.tmp 11)),qm 4 12]) (.seq (.seq (.reg [qm 13 4,qq 14 (.len (.tmp 13)),qq 15 (.bin .gtr (.tmp 14) (ki 12))]) (.cond (.tmp 15) (.seq (.reg [qq 2 (.mv (kb false))]) .ret) .skip)) (.seq (.reg [qm 16 4,qq 17 (.len (.tmp 16)),qq 18 (.mv (ki 0))]) (.blk 2 (.loop c45l1)))))) (.reg [qq 27 (.bin .add (.tmp 9) (ki 1)),qm 9 27]))))
def c45:MC:=(.seq (.reg [qq 2 (.mv (kb false))]) (.seq (.seq (.reg [qm 7 0,qq 8 (.len (.tmp 7)),qq 9 (.mv (ki 0))]) (.blk 0 (.loop c45l2))) (.seq (.reg [qm 28 0,qq 29 (.len (.tmp 28)),qq 30 (.bin .leq (.tmp 29) (ki 12)),qm 2 30]) .ret)))
theorem k45:conv Tryz.prog 31 (Tryz.f45.body.getD .skip)=c45:=by kernel_rfl
theorem in45 {a0:Value} {w:World} {R:Value→World→Prop} (h:G Tryz.prog Tryz.f45 31 [.c c45] R (frL 0 [a0]) w):Ret Tryz.prog 45 #[a0] w R:=G.enter (args:=[a0]) Tryz.func45 (c:=Tryz.f45.body.getD .skip) (by kernel_rfl) (by kernel_rfl) (by simp) k45 h
theorem small20_spec {va:Value} {t:List (List Val)} {w:World} (ha:RdT w eVal va t):Pu Tryz.prog 45 #[va] w (.bool (smallM t)):=by
  refine in45 ?_
  have hS:=Sep.start w
  obtain ⟨vs,h1,l1,i1⟩:=ha
  have hbd:=h1.bd
  repeat' (first|((with_reducible apply G.a);exact rfl)|refine G.reg fun K hK=>?_|(with_reducible (refine hK _ _ ?_);clear hK K)|(have hk:=hK;clear hk;simp (disch:=first|exact dis|fail) only [push_cast,↓reduceIte,zq1,zq2,zq3,zq4,zq5,fct])|(refine zalc ?_;intro gb wb hS)|((with_reducible refine gSt ?_);refine zs2 ?_;intro wb hS)|(refine G.cn ?_ ?_<;>intro hc<;>first|(with_reducible exact False.elim hc)|(exfalso;omega)|skip))
  refine G.loop (fun r w'=>∃ k:Nat,k≤vs.length∧r 9=I k∧r 8=I vs.length∧r 7=va∧r 0=va∧(t.drop k).all shortR=t.all shortR∧Sep w w' []) (fun r _=>vs.length - toN (r 9)) ?_ ?_
  · exact ⟨0,Nat.zero_le _,by exact sf,by exact sf,by exact sf,by exact sf,rfl,hS⟩
  · clear hS
    rintro u wl ⟨k,hk,q9,q8,q7,q0,e,hS⟩ ih
    have hm:toN (u 9)=k:=by rw [q9];simp [toN]
    by_cases hlt:(k:Int) < vs.length
    · have hkt : (k:Int) < t.length:=by omega
      have hst:=all_step shortR t k hkt
      have hr:=i1 k (by omega)
      have hd:t.getD k default=t.getD k []:=rfl
      rw [e,hd] at hst
      generalize hrk:t.getD k []=rk at *
      have hbr:=hr.bd
      by_cases h12:(rk.length:Int)≤12
      · have h1k := h1.ext hS.x
        have hrw:=hr.ext hS.x
        (have fct:=(And.intro @q9 (And.intro @q8 (And.intro @q7 @q0)));repeat' (first|((with_reducible apply G.a);exact rfl)|refine G.reg fun K hK=>?_|(with_reducible (refine hK _ _ ?_);clear hK K)|(have hk:=hK;clear hk;simp (disch:=first|exact dis|fail) only [push_cast,↓reduceIte,zq1,zq2,zq3,zq4,zq5,fct])|(refine zalc ?_;intro gb wb hS)|((with_reducible refine gSt ?_);refine zs2 ?_;intro wb hS)|(refine G.cn ?_ ?_<;>intro hc<;>first|(with_reducible exact False.elim hc)|(exfalso;omega)|skip)))<;>(try clear fct)
        refine G.loop (fun r w'=>∃ j:Nat,j≤rk.length∧r 18=I j∧r 17=I rk.length∧r 16=vs.getD k default∧r 9=I k∧r 8=I vs.length∧r 7=va∧r 0=va∧(rk.drop j).all (fun v=>decide (v.s.length≤40))=rk.all (fun v=>decide (v.s.length≤40))∧Sep w w' []) (fun r _=>rk.length - toN (r 18)) ?_ ?_
        · have fct:=(And.intro @q9 (And.intro @q8 (And.intro @q7 @q0)));exact ⟨0,Nat.zero_le _,by exact sf,by exact sf,by exact sf,by exact sf,by exact sf,by exact sf,by exact sf,rfl,hS⟩
        · clear hS q9 q8 q7 q0 h1k hrw
          rintro u2 wl2 ⟨j,hj,q18,q17,q16,q9,q8,q7,q0,e2,hS⟩ ih2
          have hm2:toN (u2 18)=j:=by rw [q18];simp [toN]
          by_cases hlj:(j:Int) < rk.length
          · have hs2:=all_step (fun v:Val=>decide (v.s.length≤40)) rk j hlj
            rw [e2] at hs2
            have hrw:=hr.ext hS.x
            by_cases h40:((rk.getD j default).s.length:Int)≤40
            · rw [decide_eq_true (show (rk.getD j default).s.length≤40 by omega),Bool.true_and] at hs2
              (have fct:=(And.intro @q18 (And.intro @q17 (And.intro @q16 (And.intro @q9 (And.intro @q8 (And.intro @q7 @q0))))));repeat' (first|((with_reducible apply G.a);exact rfl)|refine G.reg fun K hK=>?_|(with_reducible (refine hK _ _ ?_);clear hK K)|(have hk:=hK;clear hk;simp (disch:=first|exact dis|fail) only [push_cast,↓reduceIte,zq1,zq2,zq3,zq4,zq5,fct])|(refine zalc ?_;intro gb wb hS)|((with_reducible refine gSt ?_);refine zs2 ?_;intro wb hS)|(refine G.cn ?_ ?_<;>intro hc<;>first|(with_reducible exact False.elim hc)|(exfalso;omega)|skip)))<;>(try clear fct)
              all_goals
                have fct:=(And.intro @q18 (And.intro @q17 (And.intro @q16 (And.intro @q9 (And.intro @q8 (And.intro @q7 @q0))))));refine ih2 _ _ ⟨j+1,by omega,by exact sf,by exact sf,by exact sf,by exact sf,by exact sf,by exact sf,by exact sf,hs2.symm,(Sep.sub hS (by repeat first|exact Sub.rfl'|exact Sub.nil0|(refine Sub.c (by repeat constructor) ?_)|refine Sub.skip ?_))⟩ ?_
                rw [hm2];simp only [push_cast,↓reduceIte,zq1,zq2,zq3,zq4,zq5,toN_i,q18,q17,q16,q9,q8,q7,q0];omega
            · rw [decide_eq_false (show ¬ (rk.getD j default).s.length≤40 by omega),Bool.false_and] at hs2
              (have fct:=(And.intro @q18 (And.intro @q17 (And.intro @q16 (And.intro @q9 (And.intro @q8 (And.intro @q7 @q0))))));repeat' (first|((with_reducible apply G.a);exact rfl)|refine G.reg fun K hK=>?_|(with_reducible (refine hK _ _ ?_);clear hK K)|(have hk:=hK;clear hk;simp (disch:=first|exact dis|fail) only [push_cast,↓reduceIte,zq1,zq2,zq3,zq4,zq5,fct])|(refine zalc ?_;intro gb wb hS)|((with_reducible refine gSt ?_);refine zs2 ?_;intro wb hS)|(refine G.cn ?_ ?_<;>intro hc<;>first|(with_reducible exact False.elim hc)|(exfalso;omega)|skip)))<;>(try clear fct)
              all_goals
                (have fct:=(And.intro @q18 (And.intro @q17 (And.intro @q16 (And.intro @q9 (And.intro @q8 (And.intro @q7 @q0))))));(first|refine G.r1 ?_|refine G.r2 ?_|refine G.r3 ?_|refine G.r0 ?_|refine G.d0 ?_);(try simp (disch:=first|exact dis|fail) only [push_cast,↓reduceIte,zq1,zq2,zq3,zq4,zq5,fct]);(try clear fct))
                exact ⟨by unfold smallM;rw [hst];unfold shortR;rw [hs2];simp,Sep.xt (by assumption)⟩
          · rw [List.drop_eq_nil_of_le (by omega)] at e2
            have hsr:shortR rk=true:=by unfold shortR;rw [←e2,decide_eq_true (show rk.length≤12 by omega)];rfl
            rw [hsr,Bool.true_and] at hst
            (have fct:=(And.intro @q18 (And.intro @q17 (And.intro @q16 (And.intro @q9 (And.intro @q8 (And.intro @q7 @q0))))));repeat' (first|((with_reducible apply G.a);exact rfl)|refine G.reg fun K hK=>?_|(with_reducible (refine hK _ _ ?_);clear hK K)|(have hk:=hK;clear hk;simp (disch:=first|exact dis|fail) only [push_cast,↓reduceIte,zq1,zq2,zq3,zq4,zq5,fct])|(refine zalc ?_;intro gb wb hS)|((with_reducible refine gSt ?_);refine zs2 ?_;intro wb hS)|(refine G.cn ?_ ?_<;>intro hc<;>first|(with_reducible exact False.elim hc)|(exfalso;omega)|skip)))<;>(try clear fct)
            all_goals
              have fct:=(And.intro @q18 (And.intro @q17 (And.intro @q16 (And.intro @q9 (And.intro @q8 (And.intro @q7 @q0))))));refine ih _ _ ⟨k+1,by omega,by exact sf,by exact sf,by exact sf,by exact sf,hst.symm,hS⟩ ?_
              rw [hm];simp only [push_cast,↓reduceIte,zq1,zq2,zq3,zq4,zq5,toN_i,q18,q17,q16,q9,q8,q7,q0];omega
      · have h1k:=h1.ext hS.x
        have hrw:=hr.ext hS.x
        (have fct:=(And.intro @q9 (And.intro @q8 (And.intro @q7 @q0)));repeat' (first|((with_reducible apply G.a);exact rfl)|refine G.reg fun K hK=>?_|(with_reducible (refine hK _ _ ?_);clear hK K)|(have hk:=hK;clear hk;simp (disch:=first|exact dis|fail) only [push_cast,↓reduceIte,zq1,zq2,zq3,zq4,zq5,fct])|(refine zalc ?_;intro gb wb hS)|((with_reducible refine gSt ?_);refine zs2 ?_;intro wb hS)|(refine G.cn ?_ ?_<;>intro hc<;>first|(with_reducible exact False.elim hc)|(exfalso;omega)|skip)))<;>(try clear fct)
        all_goals
          (have fct:=(And.intro @q9 (And.intro @q8 (And.intro @q7 @q0)));(first|refine G.r1 ?_|refine G.r2 ?_|refine G.r3 ?_|refine G.r0 ?_|refine G.d0 ?_);(try simp (disch:=first|exact dis|fail) only [push_cast,↓reduceIte,zq1,zq2,zq3,zq4,zq5,fct]);(try clear fct))
          exact ⟨by unfold smallM;rw [hst];unfold shortR;rw [decide_eq_false (show ¬ rk.length≤12 by omega)];simp,Sep.xt (by assumption)⟩
    · rw [List.drop_eq_nil_of_le (by omega)] at e
      have h1k:=h1.ext hS.x
      (have fct:=(And.intro @q9 (And.intro @q8 (And.intro @q7 @q0)));repeat' (first|((with_reducible apply G.a);exact rfl)|refine G.reg fun K hK=>?_|(with_reducible (refine hK _ _ ?_);clear hK K)|(have hk:=hK;clear hk;simp (disch:=first|exact dis|fail) only [push_cast,↓reduceIte,zq1,zq2,zq3,zq4,zq5,fct])|(refine zalc ?_;intro gb wb hS)|((with_reducible refine gSt ?_);refine zs2 ?_;intro wb hS)|(refine G.cn ?_ ?_<;>intro hc<;>first|(with_reducible exact False.elim hc)|(exfalso;omega)|skip)))<;>(try clear fct)
      all_goals
        (have fct:=(And.intro @q9 (And.intro @q8 (And.intro @q7 @q0)));(first|refine G.r1 ?_|refine G.r2 ?_|refine G.r3 ?_|refine G.r0 ?_|refine G.d0 ?_);(try simp (disch:=first|exact dis|fail) only [push_cast,↓reduceIte,zq1,zq2,zq3,zq4,zq5,fct]);(try clear fct))
        refine ⟨?_,Sep.xt (by assumption)⟩
        unfold smallM
        rw [←e,←l1]
        rw [List.all_nil,Bool.and_true]
        refine congrArg Value.bool ?_
        rw [Bool.eq_iff_iff,decide_eq_true_iff,decide_eq_true_iff]
        omega
end Go.Proofs.YtjajihaeoolefaaGreatDoor
namespace Go.Proofs.YtjajihaeoolefaaGreatDoor
open Nat renaming reduceAdd→zq1,reduceLeDiff→zq2,reduceEqDiff→zq3,reduceLT→zq4
open Int renaming reduceToNat→zq5
set_option linter.unusedSimpArgs false
set_option linter.unusedVariables false
attribute [local irreducible] SemK UnitK StK AlcK BslK CallK CallV Instr.box Builtin.append_ Instr.makeSlice Instr.makeMap Instr.lookup Instr.mapUpdate Instr.sliceAt convert
open Go.RowKit
theorem takeK {α:Type} [Inhabited α] (l:List α) (k:Nat) (h:(k:Int) < l.length):l.take (k+1)=l.take k++[l.getD k default]:=by
  have h2:k < l.length:=by omega
  rw [List.take_succ_eq_append_getElem h2,List.getD_eq_getElem?_getD,List.getElem?_eq_getElem h2]
  rfl
def c34l1:MC:=(.seq (.reg [qq 9 (.bin .lss (.tmp 8) (.tmp 7))]) (.seq (.cond (.tmp 9) .skip (.exit 0)) (.seq (.blk 1 (.seq (.reg [qq 10 (.adr 4 (.tmp 6) (.tmp 8)),qq 11 (.ld (.some 4) (.tmp 10)),qq 5 (.alc 84 [(.int .i64 0),(S []),(.int .i64 0),(.bool false)]),qn (.st 4 (.tmp 5) (.tmp 11))]) (.reg [qm 12 3,qq 13 (.ld (.some 4) (.tmp 5)),qq 14 (.call 47 [(.tmp 13)]),qq 15 (.bsl 120 [(.int .i64 0),(S []),(.int .i64 0),(.int .i64 0)] 1 [⟨0,⟨4,(.tmp 14)⟩⟩]),qq 16 (.raw (.call ⟨(.builtin .append),#[(.tmp 12),(.tmp 15)],#[103,103]⟩) 103),qm 3 16]))) (.reg [qq 17 (.bin .add (.tmp 8) (ki 1)),qm 8 17]))))
def c34:MC:=(.seq (.reg [qq 2 (.mv (.const (.slice none 0 0)))]) (.seq (.reg [qq 3 (.mv (.const (.slice none 0 0)))]) (.seq (.seq (.reg [qm 6 0,qq 7 (.len (.tmp 6)),qq 8 (.mv (ki 0))]) (.blk 0 (.loop c34l1))) (.seq (.reg [qm 18 3,qm 2 18]) .ret))))
theorem k34:conv Tryz.prog 19 (Tryz.f34.body.getD .skip)=c34:=by kernel_rfl
theorem in34 {a0:Value} {w:World} {R:Value→World→Prop} (h:G Tryz.prog Tryz.f34 19 [.c c34] R (frL 0 [a0]) w):Ret Tryz.prog 34 #[a0] w R:=G.enter (args:=[a0]) Tryz.func34 (c:=Tryz.f34.body.getD .skip) (by kernel_rfl) (by kernel_rfl) (by simp) k34 h
theorem row20_spec {v:Value} {l:List Val} {w:World} (href:∀ (v:Val) (w:World),Pu Tryz.prog 47 #[(.agg #[I v.kind,S v.s,I v.n,.bool v.b])] w (.agg #[I v.kind,S v.s,I v.n,I (if v.b=true then 1 else 0)])) (hr:Rd w eVal v l) (hl:l.length≤1000000000):Ret Tryz.prog 34 #[v] w fun v' w'=>Sep w w' [accC v' 120 eRv l]:=by
  refine in34 ?_
  have hS:=(Sep.start w).nil 120 eRv
  have hbd:=hr.bd
  repeat' (first|((with_reducible apply G.a);exact rfl)|refine G.reg fun K hK=>?_|(with_reducible (refine hK _ _ ?_);clear hK K)|(have hk:=hK;clear hk;simp (disch:=first|exact dis|fail) only [push_cast,↓reduceIte,zq1,zq2,zq3,zq4,zq5,fct])|((first|refine zalc ?_|refine zbsl ?_);intro gb wb hS)|((with_reducible refine gSt ?_);refine zs2 ?_;intro wb hS)|(refine G.cn ?_ ?_<;>intro hc<;>first|(with_reducible exact False.elim hc)|(exfalso;omega)|skip))
  refine G.loop (fun r w'=>∃ (k:Nat) (lv:Value),k≤l.length∧r 8=I k∧r 7=I l.length∧r 6=v∧r 3=lv∧Sep w w' [accC lv 120 eRv (l.take k)]) (fun r _=>l.length - toN (r 8)) ?_ ?_
  · exact ⟨0,.slice none 0 0,Nat.zero_le _,by exact sf,by exact sf,by exact sf,by exact sf,hS⟩
  · clear hS
    rintro u wl ⟨k,lv,hk,q8,q7,q6,q3,hS⟩ ih
    have hm:toN (u 8)=k:=by rw [q8];simp [toN]
    by_cases hlt:(k:Int) < l.length
    · have htk:=takeK l k hlt
      have hll:(l.take k).length=k:=by rw [List.length_take];omega
      (have fct:=(And.intro @q8 (And.intro @q7 (And.intro @q6 @q3)));repeat' (first|((with_reducible apply G.a);exact rfl)|refine G.reg fun K hK=>?_|(with_reducible (refine hK _ _ ?_);clear hK K)|(have hk:=hK;clear hk;simp (disch:=first|exact dis|fail) only [push_cast,↓reduceIte,zq1,zq2,zq3,zq4,zq5,fct])|((first|refine zalc ?_|refine zbsl ?_);intro gb wb hS)|((with_reducible refine gSt ?_);refine zs2 ?_;intro wb hS)|(refine zcp 47 (href _ _) ?_;intro wb hS)|(refine G.cn ?_ ?_<;>intro hc<;>first|(with_reducible exact False.elim hc)|(exfalso;omega)|skip)))<;>(try clear fct)
      all_goals
        ((refine zap (y:=l.getD k default) ?_ (hy:=by simp only [eRv_f]);intro vb wb hS))
        rw [←htk] at hS
        (have fct:=(And.intro @q8 (And.intro @q7 (And.intro @q6 @q3)));repeat' (first|((with_reducible apply G.a);exact rfl)|refine G.reg fun K hK=>?_|(with_reducible (refine hK _ _ ?_);clear hK K)|(have hk:=hK;clear hk;simp (disch:=first|exact dis|fail) only [push_cast,↓reduceIte,zq1,zq2,zq3,zq4,zq5,fct])|((first|refine zalc ?_|refine zbsl ?_);intro gb wb hS)|((with_reducible refine gSt ?_);refine zs2 ?_;intro wb hS)|(refine G.cn ?_ ?_<;>intro hc<;>first|(with_reducible exact False.elim hc)|(exfalso;omega)|skip)))<;>(try clear fct)
        have fct:=(And.intro @q8 (And.intro @q7 (And.intro @q6 @q3)));refine ih _ _ ⟨k+1,vb,by omega,by exact sf,by exact sf,by exact sf,by exact sf,(Sep.sub hS (by repeat first|exact Sub.rfl'|exact Sub.nil0|(refine Sub.c (by repeat constructor) ?_)|refine Sub.skip ?_))⟩ ?_
        rw [hm];simp only [push_cast,↓reduceIte,zq1,zq2,zq3,zq4,zq5,toN_i,q8,q7,q6,q3];omega
    · (have fct:=(And.intro @q8 (And.intro @q7 (And.intro @q6 @q3)));repeat' (first|((with_reducible apply G.a);exact rfl)|refine G.reg fun K hK=>?_|(with_reducible (refine hK _ _ ?_);clear hK K)|(have hk:=hK;clear hk;simp (disch:=first|exact dis|fail) only [push_cast,↓reduceIte,zq1,zq2,zq3,zq4,zq5,fct])|((first|refine zalc ?_|refine zbsl ?_);intro gb wb hS)|((with_reducible refine gSt ?_);refine zs2 ?_;intro wb hS)|(refine G.cn ?_ ?_<;>intro hc<;>first|(with_reducible exact False.elim hc)|(exfalso;omega)|skip)))<;>(try clear fct)
      all_goals
        (have fct:=(And.intro @q8 (And.intro @q7 (And.intro @q6 @q3)));(first|refine G.r1 ?_|refine G.r2 ?_|refine G.r3 ?_|refine G.r0 ?_|refine G.d0 ?_);(try simp (disch:=first|exact dis|fail) only [push_cast,↓reduceIte,zq1,zq2,zq3,zq4,zq5,fct]);(try clear fct))
        rw [List.take_of_length_le (by omega)] at hS
        exact hS
def c12l1:MC:=(.seq (.reg [qq 9 (.bin .lss (.tmp 8) (.tmp 7))]) (.seq (.cond (.tmp 9) .skip (.exit 0)) (.seq (.blk 1 (.seq (.reg [qq 10 (.adr 1 (.tmp 6) (.tmp 8)),qq 11 (.ld none (.tmp 10)),qm 5 11]) (.reg [qm 12 3,qm 13 5,qq 14 (.call 34 [(.tmp 13)]),qq 15 (.bsl 103 [(.slice none 0 0)] 1 [⟨0,⟨1,(.tmp 14)⟩⟩]),qq 16 (.raw (.call ⟨(.builtin .append),#[(.tmp 12),(.tmp 15)],#[50,50]⟩) 50),qm 3 16]))) (.reg [qq 17 (.bin .add (.tmp 8) (ki 1)),qm 8 17]))))
def c12:MC:=(.seq (.reg [qq 2 (.mv (.const (.slice none 0 0)))]) (.seq (.reg [qq 3 (.mv (.const (.slice none 0 0)))]) (.seq (.seq (.reg [qm 6 0,qq 7 (.len (.tmp 6)),qq 8 (.mv (ki 0))]) (.blk 0 (.loop c12l1))) (.seq (.reg [qm 18 3,qm 2 18]) .ret))))
theorem k12:conv Tryz.prog 19 (Tryz.f12.body.getD .skip)=c12:=by kernel_rfl
theorem in12 {a0:Value} {w:World} {R:Value→World→Prop} (h:G Tryz.prog Tryz.f12 19 [.c c12] R (frL 0 [a0]) w):Ret Tryz.prog 12 #[a0] w R:=G.enter (args:=[a0]) Tryz.func12 (c:=Tryz.f12.body.getD .skip) (by kernel_rfl) (by kernel_rfl) (by simp) k12 h
theorem rows20_spec {va:Value} {t:List (List Val)} {w:World} (href:∀ (v:Val) (w:World),Pu Tryz.prog 47 #[(.agg #[I v.kind,S v.s,I v.n,.bool v.b])] w (.agg #[I v.kind,S v.s,I v.n,I (if v.b=true then 1 else 0)])) (ha:RdT w eVal va t) (hl:t.length≤1000000000) (hrl:∀ i,i < t.length→(t.getD i []).length≤1000000000):Ret Tryz.prog 12 #[va] w fun v' w'=>∃ us,Sep w w' [accC v' 103 eV us,frzC eRv us t]:=by
  refine in12 ?_
  have hS:=((Sep.start w).nil 103 eV).frz0 eRv
  obtain ⟨vs,h1,l1,i1⟩:=ha
  have hbd:=h1.bd
  repeat' (first|((with_reducible apply G.a);exact rfl)|refine G.reg fun K hK=>?_|(with_reducible (refine hK _ _ ?_);clear hK K)|(have hk:=hK;clear hk;simp (disch:=first|exact dis|fail) only [push_cast,↓reduceIte,zq1,zq2,zq3,zq4,zq5,fct])|(refine zbsl ?_;intro gb wb hS)|(refine G.cn ?_ ?_<;>intro hc<;>first|(with_reducible exact False.elim hc)|(exfalso;omega)|skip))
  refine G.loop (fun r w'=>∃ (k:Nat) (lv:Value) (us:List Value),k≤vs.length∧r 8=I k∧r 7=I vs.length∧r 6=va∧r 3=lv∧Sep w w' [accC lv 103 eV us,frzC eRv us (t.take k)]) (fun r _=>vs.length - toN (r 8)) ?_ ?_
  · exact ⟨0,.slice none 0 0,[],Nat.zero_le _,by exact sf,by exact sf,by exact sf,by exact sf,(Sep.sub hS (by repeat first|exact Sub.rfl'|exact Sub.nil0|(refine Sub.c (by repeat constructor) ?_)|refine Sub.skip ?_))⟩
  · clear hS
    rintro u wl ⟨k,lv,us,hk,q8,q7,q6,q3,hS⟩ ih
    have hm:toN (u 8)=k:=by rw [q8];simp [toN]
    by_cases hlt:(k:Int) < vs.length
    · have hfl:=hS.frzLen (.t .h)
      have htl:(t.take k).length=k:=by rw [List.length_take];omega
      have hrw:=fun (w2:World) (hx:Ext w w2)=>row20_spec (w:=w2) href ((i1 k (by omega)).ext hx) (hrl k (by omega))
      (have fct:=(And.intro @q8 (And.intro @q7 (And.intro @q6 @q3)));repeat' (first|((with_reducible apply G.a);exact rfl)|refine G.reg fun K hK=>?_|(with_reducible (refine hK _ _ ?_);clear hK K)|(have hk:=hK;clear hk;simp (disch:=first|exact dis|fail) only [push_cast,↓reduceIte,zq1,zq2,zq3,zq4,zq5,fct])|(refine zbsl ?_;intro gb wb hS)|(refine zco 34 (hrw _ (Sep.xt (by assumption))) ?_;rintro vb wb hS2;have hS:=hS2.ap;simp only [apps] at hS)|(refine zap ?_;intro vb wb hS)|(refine G.cn ?_ ?_<;>intro hc<;>first|(with_reducible exact False.elim hc)|(exfalso;omega)|skip)))<;>(try clear fct)
      all_goals
        have hS:=hS.frzPush (.h) (.t .h)
        have htk:t.take k++[t.getD k []]=t.take (k+1):=(takeK (α:=List Val) t k (by omega)).symm
        rw [htk] at hS
        (have fct:=(And.intro @q8 (And.intro @q7 (And.intro @q6 @q3)));repeat' (first|((with_reducible apply G.a);exact rfl)|refine G.reg fun K hK=>?_|(with_reducible (refine hK _ _ ?_);clear hK K)|(have hk:=hK;clear hk;simp (disch:=first|exact dis|fail) only [push_cast,↓reduceIte,zq1,zq2,zq3,zq4,zq5,fct])|(refine zbsl ?_;intro gb wb hS)|(refine G.cn ?_ ?_<;>intro hc<;>first|(with_reducible exact False.elim hc)|(exfalso;omega)|skip)))<;>(try clear fct)
        have fct:=(And.intro @q8 (And.intro @q7 (And.intro @q6 @q3)));refine ih _ _ ⟨k+1,vb,us++[_],by omega,by exact sf,by exact sf,by exact sf,by exact sf,(Sep.sub hS (by repeat first|exact Sub.rfl'|exact Sub.nil0|(refine Sub.c (by repeat constructor) ?_)|refine Sub.skip ?_))⟩ ?_
        rw [hm];simp only [push_cast,↓reduceIte,zq1,zq2,zq3,zq4,zq5,toN_i,q8,q7,q6,q3];omega
    · (have fct:=(And.intro @q8 (And.intro @q7 (And.intro @q6 @q3)));repeat' (first|((with_reducible apply G.a);exact rfl)|refine G.reg fun K hK=>?_|(with_reducible (refine hK _ _ ?_);clear hK K)|(have hk:=hK;clear hk;simp (disch:=first|exact dis|fail) only [push_cast,↓reduceIte,zq1,zq2,zq3,zq4,zq5,fct])|(refine zbsl ?_;intro gb wb hS)|(refine G.cn ?_ ?_<;>intro hc<;>first|(with_reducible exact False.elim hc)|(exfalso;omega)|skip)))<;>(try clear fct)
      all_goals
        (have fct:=(And.intro @q8 (And.intro @q7 (And.intro @q6 @q3)));(first|refine G.r1 ?_|refine G.r2 ?_|refine G.r3 ?_|refine G.r0 ?_|refine G.d0 ?_);(try simp (disch:=first|exact dis|fail) only [push_cast,↓reduceIte,zq1,zq2,zq3,zq4,zq5,fct]);(try clear fct))
        rw [List.take_of_length_le (by omega)] at hS
        exact ⟨_,hS⟩
end Go.Proofs.YtjajihaeoolefaaGreatDoor
