/- Texts of the proof, joined. -/
import Derived.Test.YtllanbmpacgigaaGreatDoorDP15
import Derived.Test.YtllanbmpacgigaaGreatDoorDR02
import Derived.Test.YtllanbmpacgigaaGreatDoorDW02
namespace Go.Proofs.YtllanbmpacgigaaGreatDoor
open Nat renaming reduceAdd→zq1,reduceLeDiff→zq2,reduceEqDiff→zq3,reduceLT→zq4
open Int renaming reduceToNat→zq5
set_option linter.unusedSimpArgs false
set_option linter.unusedVariables false
attribute [local irreducible] SemK UnitK StK AlcK BslK CallK CallV Instr.box Builtin.append_ Instr.makeSlice Instr.makeMap Instr.lookup Instr.mapUpdate Instr.sliceAt convert
open Go.RowKit
def c103:MC:=(.seq (.reg [qq 2 (.mv (.const (.slice none 0 0)))]) (.seq (.seq (.reg [qm 3 0,qq 4 (.raw (.binOp .eql 22 (.tmp 3) (.const (.slice none 0 0)) 22) 4)]) (.cond (.tmp 4) (.seq (.reg [qq 2 (.mv (.const (.slice none 0 0)))]) .ret) .skip)) (.seq (.reg [qq 5 (.bsl 9 [] 0 []),qm 6 0,qq 7 (.raw (.call ⟨(.builtin .append),#[(.tmp 5),(.tmp 6)],#[22,22]⟩) 22),qm 2 7]) .ret)))
theorem k103:conv Tryz.prog 8 (Tryz.f103.body.getD .skip)=c103:=by kernel_rfl
theorem in103 {a0:Value} {w:World} {R:Value→World→Prop} (h:G Tryz.prog Tryz.f103 8 [.c c103] R (frL 0 [a0]) w):Ret Tryz.prog 103 #[a0] w R:=G.enter (args:=[a0]) Tryz.func103 (c:=Tryz.f103.body.getD .skip) (by kernel_rfl) (by kernel_rfl) (by simp) k103 h
theorem clone_spec {v:Value} {l:List Str} {w:World} (hr:Rd w eS v l) (hl:l.length≤1000000000000):Ret Tryz.prog 103 #[v] w fun v' w'=>Sep w w' [accC v' 9 eS l]:=by
  refine in103 ?_
  have hS:=Sep.start w
  repeat' (first|((with_reducible apply G.a);exact rfl)|refine G.reg fun K hK=>?_|(with_reducible (refine hK _ _ ?_);clear hK K)|(have hk:=hK;clear hk;simp (disch:=first|exact dis|fail) only [push_cast,↓reduceIte,zq1,zq2,zq3,zq4,zq5,fct])|(refine zbsl ?_;intro gb wb hS)|(refine zn1 ?_)|(refine zn2 ?_)|(refine zn3 ?_)|(refine zn4 ?_)|(refine G.cn ?_ ?_<;>intro hc<;>first|(with_reducible exact False.elim hc)|(exfalso;omega)|skip))
  · obtain ⟨p,cap,rfl,h2,h3,h4,h5⟩:=hr
    have:l=[]:=by
      rcases Nat.eq_zero_or_pos l.length with h|h
      · exact List.eq_nil_of_length_eq_zero h
      · obtain ⟨a,ha,_⟩:=h5 h;subst ha;simp [isNil] at hc
    subst this
    (first|refine G.r1 ?_|refine G.r2 ?_|refine G.r3 ?_|refine G.r0 ?_|refine G.d0 ?_);(try simp (disch:=first|exact dis|fail) only [push_cast,↓reduceIte,zq1,zq2,zq3,zq4,zq5,fct])
    exact hS.nil _ _
  · have hS:=Sep.toAcc (E:=eS) ([]:List Str) hS Up.h rfl rfl (by simp) (by simp)
    ((refine zan ?_;intro vb wb hS))
    repeat' (first|((with_reducible apply G.a);exact rfl)|refine G.reg fun K hK=>?_|(with_reducible (refine hK _ _ ?_);clear hK K)|(have hk:=hK;clear hk;simp (disch:=first|exact dis|fail) only [push_cast,↓reduceIte,zq1,zq2,zq3,zq4,zq5,fct])|(refine zbsl ?_;intro gb wb hS)|(refine G.cn ?_ ?_<;>intro hc<;>first|(with_reducible exact False.elim hc)|(exfalso;omega)|skip))
    repeat' (first|((with_reducible apply G.a);exact rfl)|refine G.reg fun K hK=>?_|(with_reducible (refine hK _ _ ?_);clear hK K)|(have hk:=hK;clear hk;simp (disch:=first|exact dis|fail) only [push_cast,↓reduceIte,zq1,zq2,zq3,zq4,zq5,fct])|(refine zbsl ?_;intro gb wb hS)|(refine G.cn ?_ ?_<;>intro hc<;>first|(with_reducible exact False.elim hc)|(exfalso;omega)|skip))
    (first|refine G.r1 ?_|refine G.r2 ?_|refine G.r3 ?_|refine G.r0 ?_|refine G.d0 ?_);(try simp (disch:=first|exact dis|fail) only [push_cast,↓reduceIte,zq1,zq2,zq3,zq4,zq5,fct])
    exact hS
end Go.Proofs.YtllanbmpacgigaaGreatDoor
namespace Go.Proofs.YtllanbmpacgigaaGreatDoor
open Nat renaming reduceAdd→zq1,reduceLeDiff→zq2,reduceEqDiff→zq3,reduceLT→zq4
open Int renaming reduceToNat→zq5
set_option linter.unusedSimpArgs false
set_option linter.unusedVariables false
attribute [local irreducible] SemK UnitK StK AlcK BslK CallK CallV Instr.box Builtin.append_ Instr.makeSlice Instr.makeMap Instr.lookup Instr.mapUpdate Instr.sliceAt convert
open Go.RowKit
theorem same_step {α:Type} [Inhabited α] (a b:List α) (k:Nat) (hl:a.length=b.length) (hk:(k:Int) < a.length) (h:a.take k=b.take k) (he:a.getD k default=b.getD k default):a.take (k+1)=b.take (k+1):=by
  rw [takeD a k hk,takeD b k (by omega),h,he]
theorem same_no {α:Type} [Inhabited α] (a b:List α) (k:Nat) (he:¬ a.getD k default=b.getD k default):a≠b:=fun h=>he (by rw [h])
def c12l1:MC:=(.seq (.reg [qq 14 (.bin .lss (.tmp 13) (.tmp 12))]) (.seq (.cond (.tmp 14) .skip (.exit 0)) (.seq (.blk 1 (.seq (.reg [qm 15 13,qm 5 15]) (.seq (.drg [qm 16 0,qm 17 5,qq 18 (.adr 1 (.tmp 16) (.tmp 17)),qq 19 (.ld none (.tmp 18)),qm 20 1,qm 21 5,qq 22 (.adr 1 (.tmp 20) (.tmp 21)),qq 23 (.ld none (.tmp 22)),qq 24 (.bin .neq (.tmp 19) (.tmp 23))] none) (.cond (.tmp 24) (.seq (.reg [qq 4 (.mv (kb false))]) .ret) .skip)))) (.reg [qq 25 (.bin .add (.tmp 13) (ki 1)),qm 13 25]))))
def c12:MC:=(.seq (.reg [qq 4 (.mv (kb false))]) (.seq (.seq (.reg [qm 6 0,qq 7 (.len (.tmp 6)),qm 8 1,qq 9 (.len (.tmp 8)),qq 10 (.bin .neq (.tmp 7) (.tmp 9))]) (.cond (.tmp 10) (.seq (.reg [qq 4 (.mv (kb false))]) .ret) .skip)) (.seq (.seq (.reg [qm 11 0,qq 12 (.len (.tmp 11)),qq 13 (.mv (ki 0))]) (.blk 0 (.loop c12l1))) (.seq (.reg [qq 4 (.mv (kb true))]) .ret))))
theorem k12:conv Tryz.prog 26 (Tryz.f12.body.getD .skip)=c12:=by kernel_rfl
theorem in12 {a0 a1:Value} {w:World} {R:Value→World→Prop} (h:G Tryz.prog Tryz.f12 26 [.c c12] R (frL 0 [a0,a1]) w):Ret Tryz.prog 12 #[a0,a1] w R:=G.enter (args:=[a0,a1]) Tryz.func12 (c:=Tryz.f12.body.getD .skip) (by kernel_rfl) (by kernel_rfl) (by simp) k12 h
theorem same05_spec {va vb:Value} {a b:List Str} {w:World} (ha:Rd w eS va a) (hb:Rd w eS vb b):Pu Tryz.prog 12 #[va,vb] w (.bool (decide (a=b))):=by
  refine in12 ?_
  have hS:=Sep.start w
  have hbd:=ha.bd
  repeat' (first|((with_reducible apply G.a);exact rfl)|refine G.reg fun K hK=>?_|(with_reducible (refine hK _ _ ?_);clear hK K)|(with_reducible (refine hK _ ?_);clear hK K;intro wd hxd;have hS:=Sep.xx hxd)|(have hk:=hK;clear hk;simp (disch:=first|exact dis|fail) only [push_cast,↓reduceIte,zq1,zq2,zq3,zq4,zq5,fct])|refine G.drg mixed fun K hK=>?_|(refine G.cn ?_ ?_<;>intro hc<;>first|(with_reducible exact False.elim hc)|(exfalso;omega)|skip))
  · (first|refine G.r1 ?_|refine G.r2 ?_|refine G.r3 ?_|refine G.r0 ?_|refine G.d0 ?_);(try simp (disch:=first|exact dis|fail) only [push_cast,↓reduceIte,zq1,zq2,zq3,zq4,zq5,fct])
    (refine ⟨?_,Sep.xt (by assumption)⟩)
    rw [decide_eq_false (fun h=>hc (by rw [h]))]
  · refine G.loop (fun r w'=>∃ k:Nat,k≤a.length∧r 13=I k∧r 12=I a.length∧r 0=va∧r 1=vb∧a.take k=b.take k∧Sep w w' []) (fun r _=>a.length - toN (r 13)) ?_ ?_
    · refine ⟨0,?_⟩
      ((repeat' apply And.intro)<;>first|exact dj|(simp only [push_cast,↓reduceIte,zq1,zq2,zq3,zq4,zq5]<;>omega)|skip)
    · rintro u wl ⟨k,hk,h13,h12,h0,h1,e,hS⟩ ih
      (have fct:=(And.intro @h13 (And.intro @h12 (And.intro @h0 @h1)));repeat' (first|((with_reducible apply G.a);exact rfl)|refine G.reg fun K hK=>?_|(with_reducible (refine hK _ _ ?_);clear hK K)|(with_reducible (refine hK _ ?_);clear hK K;intro wd hxd;have hS:=Sep.xx hxd)|(have hk:=hK;clear hk;simp (disch:=first|exact dis|fail) only [push_cast,↓reduceIte,zq1,zq2,zq3,zq4,zq5,fct])|refine G.drg mixed fun K hK=>?_|(refine G.cn ?_ ?_<;>intro hc<;>first|(with_reducible exact False.elim hc)|(exfalso;omega)|skip)))<;>(try clear fct)
      · (have fct:=(And.intro @h13 (And.intro @h12 (And.intro @h0 @h1)));(first|refine G.r1 ?_|refine G.r2 ?_|refine G.r3 ?_|refine G.r0 ?_|refine G.d0 ?_);(try simp (disch:=first|exact dis|fail) only [push_cast,↓reduceIte,zq1,zq2,zq3,zq4,zq5,fct]);(try clear fct))
        (refine ⟨?_,Sep.xt (by assumption)⟩)
        rw [decide_eq_false (same_no a b k hc)]
      · (refine ih _ _ ⟨k+1,?_⟩ ?_;rotate_left;(focus ((simp only [push_cast,↓reduceIte,zq1,zq2,zq3,zq4,zq5,toN_i,h13,h12,h0,h1]<;>omega)));((repeat' apply And.intro)<;>first|exact dj|(simp only [push_cast,↓reduceIte,zq1,zq2,zq3,zq4,zq5,h13,h12,h0,h1]<;>omega)|skip))
        exact same_step a b k (by omega) (by assumption) e hc
      · (have fct:=(And.intro @h13 (And.intro @h12 (And.intro @h0 @h1)));(first|refine G.r1 ?_|refine G.r2 ?_|refine G.r3 ?_|refine G.r0 ?_|refine G.d0 ?_);(try simp (disch:=first|exact dis|fail) only [push_cast,↓reduceIte,zq1,zq2,zq3,zq4,zq5,fct]);(try clear fct))
        (refine ⟨?_,Sep.xt (by assumption)⟩)
        rw [List.take_of_length_le (by omega),List.take_of_length_le (by omega)] at e
        rw [decide_eq_true e]
def c37l1:MC:=(.seq (.reg [qq 34 (.bin .lss (.tmp 33) (.tmp 32))]) (.seq (.cond (.tmp 34) .skip (.exit 2)) (.seq (.blk 3 (.seq (.reg [qq 35 (.adr 1 (.tmp 31) (.tmp 33)),qq 36 (.ld none (.tmp 35)),qm 12 36]) (.seq (.seq (.reg [qm 37 12,qq 38 (.lenS (.tmp 37)),qm 39 3,qq 40 (.bin .gtr (.tmp 38) (.tmp 39))]) (.cond (.tmp 40) (.seq (.reg [qq 8 (.mv (kb true))]) .ret) .skip)) (.reg [qm 41 3,qm 42 12,qq 43 (.lenS (.tmp 42)),qq 44 (.bin .sub (.tmp 41) (.tmp 43)),qm 3 44])))) (.reg [qq 45 (.bin .add (.tmp 33) (ki 1)),qm 33 45]))))
def c37l2:MC:=(.seq (.reg [qq 20 (.bin .lss (.tmp 19) (.tmp 18))]) (.seq (.cond (.tmp 20) .skip (.exit 0)) (.seq (.blk 1 (.seq (.reg [qq 21 (.adr 1 (.tmp 17) (.tmp 19)),qq 22 (.ld none (.tmp 21)),qm 10 22]) (.seq (.seq (.reg [qm 23 10,qq 24 (.len (.tmp 23)),qm 25 2,qq 26 (.bin .gtr (.tmp 24) (.tmp 25))]) (.cond (.tmp 26) (.seq (.reg [qq 8 (.mv (kb true))]) .ret) .skip)) (.seq (.reg [qm 27 2,qm 28 10,qq 29 (.len (.tmp 28)),qq 30 (.bin .sub (.tmp 27) (.tmp 29)),qm 2 30]) (.seq (.reg [qm 31 10,qq 32 (.len (.tmp 31)),qq 33 (.mv (ki 0))]) (.blk 2 (.loop c37l1))))))) (.reg [qq 46 (.bin .add (.tmp 19) (ki 1)),qm 19 46]))))
def c37:MC:=(.seq (.reg [qq 8 (.mv (kb false))]) (.seq (.seq (.reg [qm 13 0,qq 14 (.len (.tmp 13)),qm 15 1,qq 16 (.bin .gtr (.tmp 14) (.tmp 15))]) (.cond (.tmp 16) (.seq (.reg [qq 8 (.mv (kb true))]) .ret) .skip)) (.seq (.seq (.reg [qm 17 0,qq 18 (.len (.tmp 17)),qq 19 (.mv (ki 0))]) (.blk 0 (.loop c37l2))) (.seq (.reg [qq 8 (.mv (kb false))]) .ret))))
theorem k37:conv Tryz.prog 47 (Tryz.f37.body.getD .skip)=c37:=by kernel_rfl
theorem in37 {a0 a1 a2 a3:Value} {w:World} {R:Value→World→Prop} (h:G Tryz.prog Tryz.f37 47 [.c c37] R (frL 0 [a0,a1,a2,a3]) w):Ret Tryz.prog 37 #[a0,a1,a2,a3] w R:=G.enter (args:=[a0,a1,a2,a3]) Tryz.func37 (c:=Tryz.f37.body.getD .skip) (by kernel_rfl) (by kernel_rfl) (by simp) k37 h
theorem great_spec {v:Value} {t:List (List Str)} {n f b:Int} {w:World} (hr:RdN w eS v t) (hf:0≤f∧f≤1000000000000) (hb:0≤b∧b≤1000000000000) :
    Pu Tryz.prog 37 #[v,I n,I f,I b] w (.bool (greatM t n f b)):=by
  obtain ⟨vs,hv,hl,hrow⟩:=hr
  refine in37 ?_
  have hS:=Sep.start w
  have hbd:=hv.bd
  repeat' (first|((with_reducible apply G.a);exact rfl)|refine G.reg fun K hK=>?_|(with_reducible (refine hK _ _ ?_);clear hK K)|(have hk:=hK;clear hk;simp (disch:=first|exact dis|fail) only [push_cast,↓reduceIte,zq1,zq2,zq3,zq4,zq5,fct])|(refine G.cn ?_ ?_<;>intro hc<;>first|(with_reducible exact False.elim hc)|(exfalso;omega)|skip))
  · (first|refine G.r1 ?_|refine G.r2 ?_|refine G.r3 ?_|refine G.r0 ?_|refine G.d0 ?_);(try simp (disch:=first|exact dis|fail) only [push_cast,↓reduceIte,zq1,zq2,zq3,zq4,zq5,fct])
    (refine ⟨?_,Sep.xt (by assumption)⟩)
    simp only [greatM];rw [if_pos (by omega)]
  · have h0 : greatM t n f b=gTab t f b:=by simp only [greatM];rw [if_neg (by omega)]
    refine G.loop (fun r w'=>∃ (k:Nat) (f' b':Int),k≤t.length∧r 19=I k∧r 18=I vs.length∧r 17=v∧r 2=I f'∧r 3=I b'∧0≤f'∧f'≤1000000000000∧0≤b'∧b'≤1000000000000∧greatM t n f b=gTab (t.drop k) f' b'∧Sep w w' []) (fun r _=>t.length - toN (r 19)) ?_ ?_
    · refine ⟨0,f,b,?_⟩
      ((repeat' apply And.intro)<;>first|exact dj|(simp only [push_cast,↓reduceIte,zq1,zq2,zq3,zq4,zq5]<;>omega)|skip)
    · rintro u wl ⟨k,f',b',hk,h19,h18,h17,h2,h3,hf1,hf2,hb1,hb2,e,hS⟩ ih
      by_cases hlt:(k:Int) < t.length
      · have hRow:=(hrow k hlt).ext hS.x
        have hrb:=hRow.bd
        rw [dropD _ _ hlt,gTab] at e
        (have fct:=(And.intro @h19 (And.intro @h18 (And.intro @h17 (And.intro @h2 @h3))));repeat' (first|((with_reducible apply G.a);exact rfl)|refine G.reg fun K hK=>?_|(with_reducible (refine hK _ _ ?_);clear hK K)|(have hk:=hK;clear hk;simp (disch:=first|exact dis|fail) only [push_cast,↓reduceIte,zq1,zq2,zq3,zq4,zq5,fct])|(refine G.cn ?_ ?_<;>intro hc<;>first|(with_reducible exact False.elim hc)|(exfalso;omega)|skip)))<;>(try clear fct)
        · (have fct:=(And.intro @h19 (And.intro @h18 (And.intro @h17 (And.intro @h2 @h3))));(first|refine G.r1 ?_|refine G.r2 ?_|refine G.r3 ?_|refine G.r0 ?_|refine G.d0 ?_);(try simp (disch:=first|exact dis|fail) only [push_cast,↓reduceIte,zq1,zq2,zq3,zq4,zq5,fct]);(try clear fct))
          (refine ⟨?_,Sep.xt (by assumption)⟩)
          rw [e,if_pos (by omega)]
        · rw [if_neg (by omega)] at e
          refine G.loop (fun r w'=>∃ (j:Nat) (b2:Int),j≤(t.getD k default).length∧r 33=I j∧r 32=I (t.getD k default).length∧r 31=vs.getD k default∧r 19=I k∧r 18=I vs.length∧r 17=v∧r 2=I (f' - (t.getD k default).length)∧r 3=I b2∧0≤b2∧b2≤1000000000000∧gRow (t.getD k default) b'=gRow ((t.getD k default).drop j) b2∧Sep w w' []) (fun r _=>(t.getD k default).length - toN (r 33)) ?_ ?_
          · refine ⟨0,b',?_⟩
            ((repeat' apply And.intro)<;>first|exact dj|(simp only [push_cast,↓reduceIte,zq1,zq2,zq3,zq4,zq5,h19,h18,h17,h2,h3]<;>omega)|skip)
          · clear hS
            rintro u2 wl2 ⟨j,b2,hj,g33,g32,g31,g19,g18,g17,g2,g3,hb3,hb4,e2,hS⟩ ih2
            have hRow:=(hrow k hlt).ext hS.x
            by_cases hjt:(j:Int) < (t.getD k default).length
            · rw [dropD _ _ hjt,gRow] at e2
              (have fct:=(And.intro @g33 (And.intro @g32 (And.intro @g31 (And.intro @g19 (And.intro @g18 (And.intro @g17 (And.intro @g2 @g3)))))));repeat' (first|((with_reducible apply G.a);exact rfl)|refine G.reg fun K hK=>?_|(with_reducible (refine hK _ _ ?_);clear hK K)|(have hk:=hK;clear hk;simp (disch:=first|exact dis|fail) only [push_cast,↓reduceIte,zq1,zq2,zq3,zq4,zq5,fct])|(refine G.cn ?_ ?_<;>intro hc<;>first|(with_reducible exact False.elim hc)|(exfalso;omega)|skip)))<;>(try clear fct)
              · (have fct:=(And.intro @g33 (And.intro @g32 (And.intro @g31 (And.intro @g19 (And.intro @g18 (And.intro @g17 (And.intro @g2 @g3)))))));(first|refine G.r1 ?_|refine G.r2 ?_|refine G.r3 ?_|refine G.r0 ?_|refine G.d0 ?_);(try simp (disch:=first|exact dis|fail) only [push_cast,↓reduceIte,zq1,zq2,zq3,zq4,zq5,fct]);(try clear fct))
                (refine ⟨?_,Sep.xt (by assumption)⟩)
                rw [e,e2,if_pos (by omega)]
              · rw [if_neg (by omega)] at e2
                refine ih2 _ _ ⟨j+1,b2 - ((t.getD k default).getD j default).length,?_⟩ ?_
                · ((repeat' apply And.intro)<;>first|exact dj|(simp only [push_cast,↓reduceIte,zq1,zq2,zq3,zq4,zq5,g33,g32,g31,g19,g18,g17,g2,g3]<;>omega)|skip)
                · (simp only [push_cast,↓reduceIte,zq1,zq2,zq3,zq4,zq5,toN_i,g33,g32,g31,g19,g18,g17,g2,g3]<;>omega)
            · rw [List.drop_eq_nil_of_le (by omega),gRow] at e2
              rw [e2] at e
              (have fct:=(And.intro @g33 (And.intro @g32 (And.intro @g31 (And.intro @g19 (And.intro @g18 (And.intro @g17 (And.intro @g2 @g3)))))));repeat' (first|((with_reducible apply G.a);exact rfl)|refine G.reg fun K hK=>?_|(with_reducible (refine hK _ _ ?_);clear hK K)|(have hk:=hK;clear hk;simp (disch:=first|exact dis|fail) only [push_cast,↓reduceIte,zq1,zq2,zq3,zq4,zq5,fct])|(refine G.cn ?_ ?_<;>intro hc<;>first|(with_reducible exact False.elim hc)|(exfalso;omega)|skip)))<;>(try clear fct)
              refine ih _ _ ⟨k+1,f' - (t.getD k default).length,b2,?_⟩ ?_
              · ((repeat' apply And.intro)<;>first|exact dj|(simp only [push_cast,↓reduceIte,zq1,zq2,zq3,zq4,zq5,g33,g32,g31,g19,g18,g17,g2,g3]<;>omega)|skip)
              · (simp only [push_cast,↓reduceIte,zq1,zq2,zq3,zq4,zq5,toN_i,h19,g33,g32,g31,g19,g18,g17,g2,g3]<;>omega)
      · rw [List.drop_eq_nil_of_le (by omega),gTab] at e
        (have fct:=(And.intro @h19 (And.intro @h18 (And.intro @h17 (And.intro @h2 @h3))));repeat' (first|((with_reducible apply G.a);exact rfl)|refine G.reg fun K hK=>?_|(with_reducible (refine hK _ _ ?_);clear hK K)|(have hk:=hK;clear hk;simp (disch:=first|exact dis|fail) only [push_cast,↓reduceIte,zq1,zq2,zq3,zq4,zq5,fct])|(refine G.cn ?_ ?_<;>intro hc<;>first|(with_reducible exact False.elim hc)|(exfalso;omega)|skip)))<;>(try clear fct)
        (have fct:=(And.intro @h19 (And.intro @h18 (And.intro @h17 (And.intro @h2 @h3))));(first|refine G.r1 ?_|refine G.r2 ?_|refine G.r3 ?_|refine G.r0 ?_|refine G.d0 ?_);(try simp (disch:=first|exact dis|fail) only [push_cast,↓reduceIte,zq1,zq2,zq3,zq4,zq5,fct]);(try clear fct))
        (refine ⟨?_,Sep.xt (by assumption)⟩)
        rw [e]
end Go.Proofs.YtllanbmpacgigaaGreatDoor
namespace Go.Proofs.YtllanbmpacgigaaGreatDoor
open Nat renaming reduceAdd→zq1,reduceLeDiff→zq2,reduceEqDiff→zq3,reduceLT→zq4
open Int renaming reduceToNat→zq5
set_option linter.unusedSimpArgs false
set_option linter.unusedVariables false
attribute [local irreducible] SemK UnitK StK AlcK BslK CallK CallV Instr.box Builtin.append_ Instr.makeSlice Instr.makeMap Instr.lookup Instr.mapUpdate Instr.sliceAt convert
open Go.RowKit
end Go.Proofs.YtllanbmpacgigaaGreatDoor
namespace Go.Proofs.YtllanbmpacgigaaGreatDoor
open Nat renaming reduceAdd→zq1,reduceLeDiff→zq2,reduceEqDiff→zq3,reduceLT→zq4
open Int renaming reduceToNat→zq5
set_option linter.unusedSimpArgs false
set_option linter.unusedVariables false
attribute [local irreducible] SemK UnitK StK AlcK BslK CallK CallV Instr.box Builtin.append_ Instr.makeSlice Instr.makeMap Instr.lookup Instr.mapUpdate Instr.sliceAt convert
open Go.RowKit
theorem sqM_app (a:Str) (b:UInt8):sqM (a++[b])=sqM a++spB b:=by simp [sqM]
theorem spB_len (b:UInt8):(spB b).length≤2:=by unfold spB;split<;>(try split)<;>(try split)<;>simp
theorem sqM_len (s:Str):(sqM s).length≤2 * s.length:=by
  induction s with
  | nil=>simp [sqM]
  | cons b r ih=>rw [sqM_cons,List.length_append,List.length_cons];have:=spB_len b;omega
theorem takeB (l:Str) (k:Nat) (h:(k:Int) < l.length):l.take (k+1)=l.take k++[l.getD k 0]:=takeD l k h
theorem u8_of {b:UInt8} (c:UInt8) (h:(b.toNat:Int)=c.toNat):b=c:=UInt8.toNat_inj.1 (by omega)
end Go.Proofs.YtllanbmpacgigaaGreatDoor
namespace Go.Proofs.YtllanbmpacgigaaGreatDoor
open Nat renaming reduceAdd→zq1,reduceLeDiff→zq2,reduceEqDiff→zq3,reduceLT→zq4
open Int renaming reduceToNat→zq5
set_option linter.unusedSimpArgs false
set_option linter.unusedVariables false
attribute [local irreducible] SemK UnitK StK AlcK BslK CallK CallV Instr.box Builtin.append_ Instr.makeSlice Instr.makeMap Instr.lookup Instr.mapUpdate Instr.sliceAt convert
open Go.RowKit
theorem dropB (l:Str) (k:Nat) (h:(k:Int) < l.length):l.drop k=l.getD k 0 :: l.drop (k+1):=dropD l k h
theorem u8_ne {b:UInt8} {c:UInt8} {n:Int} (hn:(c.toNat:Int)=n) (h:¬ (b.toNat:Int)=n):¬ b=c:=fun e=>h (by rw [e];exact hn)
theorem u8_eq {b:UInt8} {c:UInt8} {n:Int} (hn:(c.toNat:Int)=n) (h:(b.toNat:Int)=n):b=c:=UInt8.toNat_inj.1 (by omega)
theorem app_comp {α:Type} (a:List α) (b:α):((a++·) ∘ (b :: ·))=((a++[b])++·):=by funext x;simp
theorem bwb_c {g:Nat} {xs:Str} {L R:List Chk} {w w0:World} (n:Int) (c:UInt8) (hn:(c.toNat:Int)=n) (hS:Sep w0 w L) (he:Ex (bldC g 67 5 xs) L R) (hl:xs.length≤1000000000000) :
    Ret Tryz.prog 35 #[.pointer (some ⟨g,0,none⟩),.int .u8 n] w fun res w'=>res=.nilIface∧Sep w0 w' (bldC g 67 5 (xs++[c]) :: R):=by
  subst hn;exact bwb_spec c hS he hl
end Go.Proofs.YtllanbmpacgigaaGreatDoor
namespace Go.Proofs.YtllanbmpacgigaaGreatDoor
open Nat renaming reduceAdd→zq1,reduceLeDiff→zq2,reduceEqDiff→zq3,reduceLT→zq4
open Int renaming reduceToNat→zq5
set_option linter.unusedSimpArgs false
set_option linter.unusedVariables false
attribute [local irreducible] SemK UnitK StK AlcK BslK CallK CallV Instr.box Builtin.append_ Instr.makeSlice Instr.makeMap Instr.lookup Instr.mapUpdate Instr.sliceAt convert
open Go.RowKit
def unL:Str→Option Str
  | []=>some []
  | b :: r=>if b=92 then (match r with
      | []=>none
      | c :: r'=>if c=92 then (unL r').map (92 :: ·) else if c=110 then (unL r').map (10 :: ·) else if c=114 then (unL r').map (13 :: ·) else none) else (unL r).map (b :: ·)
theorem unL_o {b:UInt8} (r:Str) (h1:¬ b=92):unL (b :: r)=(unL r).map (b :: ·):=by
  cases r<;>simp [unL,h1]
theorem unL_pair (c:UInt8) (r:Str):unL (92 :: c :: r)=if c=92 then (unL r).map (92 :: ·) else if c=110 then (unL r).map (10 :: ·) else if c=114 then (unL r).map (13 :: ·) else none:=by
  simp [unL]
theorem unL_one:unL [92]=none:=by simp [unL]
theorem unL_sp (s:Str):unL (sqM s)=some s:=by
  induction s with
  | nil=>rfl
  | cons b r ih =>
    rw [sqM_cons]
    by_cases h1:b=92
    · subst h1;rw [spB_92];show unL (92 :: 92 :: sqM r)=_;rw [unL_pair,if_pos rfl,ih];rfl
    by_cases h2:b=10
    · subst h2;rw [spB_10];show unL (92 :: 110 :: sqM r)=_;rw [unL_pair,if_neg (by decide),if_pos rfl,ih];rfl
    by_cases h3:b=13
    · subst h3;rw [spB_13];show unL (92 :: 114 :: sqM r)=_;rw [unL_pair,if_neg (by decide),if_neg (by decide),if_pos rfl,ih];rfl
    rw [spB_o h1 h2 h3];show unL (b :: sqM r)=_;rw [unL_o _ h1,ih];rfl
def c15l1:MC:=(.seq (.seq (.reg [qm 5 4,qm 6 0,qq 7 (.lenS (.tmp 6)),qq 8 (.bin .lss (.tmp 5) (.tmp 7))]) (.cond (.tmp 8) .skip (.exit 0))) (.seq (.blk 1 (.seq (.reg [qm 11 0,qm 12 4,qq 13 (.idxS (.tmp 11) (.tmp 12))]) (.blk 2 (.seq (.reg [qq 19 (.bin .eql (.tmp 13) (.const (.int .u8 92))),qm 18 19]) (.cond (.tmp 18) (.reg [qq 20 (.call 34 [(.tmp 3),(.const (S [92,92]))])]) (.seq (.reg [qq 22 (.bin .eql (.tmp 13) (.const (.int .u8 10))),qm 21 22]) (.cond (.tmp 21) (.reg [qq 23 (.call 34 [(.tmp 3),(.const (S [92,110]))])]) (.seq (.reg [qq 25 (.bin .eql (.tmp 13) (.const (.int .u8 13))),qm 24 25]) (.cond (.tmp 24) (.reg [qq 26 (.call 34 [(.tmp 3),(.const (S [92,114]))])]) (.reg [qm 14 0,qm 15 4,qq 16 (.idxS (.tmp 14) (.tmp 15)),qq 17 (.call 35 [(.tmp 3),(.tmp 16)])])))))))))) (.reg [qm 9 4,qq 10 (.bin .add (.tmp 9) (ki 1)),qm 4 10])))
def c15:MC:=(.seq (.reg [qq 2 (.mv (.const (S [])))]) (.seq (.reg [qq 3 (.alc 67 [(.pointer none),(.slice none 0 0)])]) (.seq (.seq (.reg [qq 4 (.mv (ki 0))]) (.blk 0 (.loop c15l1))) (.seq (.reg [qq 27 (.call 36 [(.tmp 3)]),qm 2 27]) .ret))))
theorem k15:conv Tryz.prog 28 (Tryz.f15.body.getD .skip)=c15:=by kernel_rfl
theorem in15 {a0:Value} {w:World} {R:Value→World→Prop} (h:G Tryz.prog Tryz.f15 28 [.c c15] R (frL 0 [a0]) w):Ret Tryz.prog 15 #[a0] w R:=G.enter (args:=[a0]) Tryz.func15 (c:=Tryz.f15.body.getD .skip) (by kernel_rfl) (by kernel_rfl) (by simp) k15 h
theorem spellL_spec (s:Str) (w:World) (hl:s.length≤100000000000):Pu Tryz.prog 15 #[S s] w (S (sqM s)):=by
  refine in15 ?_
  have hS:=Sep.start w
  repeat' (first|((with_reducible apply G.a);exact rfl)|refine G.reg fun K hK=>?_|(with_reducible (refine hK _ _ ?_);clear hK K)|(have hk:=hK;clear hk;simp (disch:=first|exact dis|fail) only [push_cast,↓reduceIte,zq1,zq2,zq3,zq4,zq5,fct])|(refine zalc ?_;intro gb wb hS)|(refine G.cn ?_ ?_<;>intro hc<;>first|(with_reducible exact False.elim hc)|(exfalso;omega)|skip))
  have hS:=hS.newB 5
  refine G.loop (fun r w'=>∃ k:Nat,k≤s.length∧r 4=I k∧r 3=.pointer (some ⟨gb,0,none⟩)∧r 0=S s∧Sep w w' [bldC gb 67 5 (sqM (s.take k))]) (fun r _=>s.length - toN (r 4)) ?_ ?_
  · refine ⟨0,?_⟩
    ((repeat' apply And.intro)<;>first|exact dj|(simp only [push_cast,↓reduceIte,zq1,zq2,zq3,zq4,zq5]<;>omega)|skip)
  · clear hS
    rintro u wl ⟨k,hk,h4,h3,h0,hS⟩ ih
    have hle:=sqM_len (s.take k)
    have hlt2:(s.take k).length≤k:=by rw [List.length_take];omega
    by_cases hlt:(k:Int) < s.length
    · have htk:=takeB s k hlt
      (have fct:=(And.intro @h4 (And.intro @h3 @h0));repeat' (first|((with_reducible apply G.a);exact rfl)|refine G.reg fun K hK=>?_|(with_reducible (refine hK _ _ ?_);clear hK K)|(have hk:=hK;clear hk;simp (disch:=first|exact dis|fail) only [push_cast,↓reduceIte,zq1,zq2,zq3,zq4,zq5,fct])|(refine zalc ?_;intro gb wb hS)|(refine zco 34 (bws_spec hS .h (by omega) (by simp)) ?_;rintro vb wb ⟨rfl,hS⟩)|(refine zco 35 (bwb_spec _ hS .h (by omega)) ?_;rintro vb wb ⟨rfl,hS⟩)|(refine G.cn ?_ ?_<;>intro hc<;>first|(with_reducible exact False.elim hc)|(exfalso;omega)|skip)))<;>(try clear fct)
      all_goals
        have e:sqM (s.take (k+1))=sqM (s.take k)++spB (s.getD k 0):=by rw [htk,sqM_app]
        have n92:s.getD k 0=92→((s.getD k 0).toNat:Int)=92:=fun h=>by rw [h];rfl
        have n10:s.getD k 0=10→((s.getD k 0).toNat:Int)=10:=fun h=>by rw [h];rfl
        have n13:s.getD k 0=13→((s.getD k 0).toNat:Int)=13:=fun h=>by rw [h];rfl
        first
          | rw [u8_of 92 (show ((s.getD k 0).toNat:Int)=92 by assumption),spB_92] at e
          | rw [u8_of 10 (show ((s.getD k 0).toNat:Int)=10 by assumption),spB_10] at e
          | rw [u8_of 13 (show ((s.getD k 0).toNat:Int)=13 by assumption),spB_13] at e
          | rw [spB_o (fun h=>absurd (n92 h) (by assumption)) (fun h=>absurd (n10 h) (by assumption)) (fun h=>absurd (n13 h) (by assumption))] at e
        rw [←e] at hS
        (refine ih _ _ ⟨k+1,?_⟩ ?_;rotate_left;(focus ((simp only [push_cast,↓reduceIte,zq1,zq2,zq3,zq4,zq5,toN_i,h4,h3,h0]<;>omega)));((repeat' apply And.intro)<;>first|exact dj|(simp only [push_cast,↓reduceIte,zq1,zq2,zq3,zq4,zq5,h4,h3,h0]<;>omega)|skip))
    · (have fct:=(And.intro @h4 (And.intro @h3 @h0));repeat' (first|((with_reducible apply G.a);exact rfl)|refine G.reg fun K hK=>?_|(with_reducible (refine hK _ _ ?_);clear hK K)|(have hk:=hK;clear hk;simp (disch:=first|exact dis|fail) only [push_cast,↓reduceIte,zq1,zq2,zq3,zq4,zq5,fct])|(refine zalc ?_;intro gb wb hS)|(refine zco 36 (bst_spec hS .h) ?_;rintro vb wb ⟨rfl,hS⟩)|(refine G.cn ?_ ?_<;>intro hc<;>first|(with_reducible exact False.elim hc)|(exfalso;omega)|skip)))<;>(try clear fct)
      (have fct:=(And.intro @h4 (And.intro @h3 @h0));(first|refine G.r1 ?_|refine G.r2 ?_|refine G.r3 ?_|refine G.r0 ?_|refine G.d0 ?_);(try simp (disch:=first|exact dis|fail) only [push_cast,↓reduceIte,zq1,zq2,zq3,zq4,zq5,fct]);(try clear fct))
      (refine ⟨?_,Sep.xt (by assumption)⟩)
      rw [List.take_of_length_le (by omega)]
end Go.Proofs.YtllanbmpacgigaaGreatDoor
namespace Go.Proofs.YtllanbmpacgigaaGreatDoor
open Nat renaming reduceAdd→zq1,reduceLeDiff→zq2,reduceEqDiff→zq3,reduceLT→zq4
open Int renaming reduceToNat→zq5
set_option linter.unusedSimpArgs false
set_option linter.unusedVariables false
attribute [local irreducible] SemK UnitK StK AlcK BslK CallK CallV Instr.box Builtin.append_ Instr.makeSlice Instr.makeMap Instr.lookup Instr.mapUpdate Instr.sliceAt convert
open Go.RowKit
def c16l1:MC:=(.seq (.seq (.reg [qm 6 5,qm 7 0,qq 8 (.lenS (.tmp 7)),qq 9 (.bin .lss (.tmp 6) (.tmp 8))]) (.cond (.tmp 9) .skip (.exit 0))) (.seq (.blk 1 (.seq (.seq (.reg [qm 12 0,qm 13 5,qq 14 (.idxS (.tmp 12) (.tmp 13)),qq 15 (.bin .neq (.tmp 14) (.const (.int .u8 92)))]) (.cond (.tmp 15) (.seq (.reg [qm 16 0,qm 17 5,qq 18 (.idxS (.tmp 16) (.tmp 17)),qq 19 (.call 35 [(.tmp 4),(.tmp 18)])]) (.exit 1)) .skip)) (.seq (.reg [qm 20 5,qq 21 (.bin .add (.tmp 20) (ki 1)),qm 5 21]) (.seq (.seq (.reg [qm 22 5,qm 23 0,qq 24 (.lenS (.tmp 23)),qq 25 (.bin .eql (.tmp 22) (.tmp 24))]) (.cond (.tmp 25) (.seq (.reg [qq 2 (.mv (.const (S []))),qq 3 (.mv (kb false))]) .ret) .skip)) (.seq (.reg [qm 26 0,qm 27 5,qq 28 (.idxS (.tmp 26) (.tmp 27))]) (.blk 2 (.seq (.reg [qq 30 (.bin .eql (.tmp 28) (.const (.int .u8 92))),qm 29 30]) (.cond (.tmp 29) (.reg [qq 31 (.call 35 [(.tmp 4),(.const (.int .u8 92))])]) (.seq (.reg [qq 33 (.bin .eql (.tmp 28) (.const (.int .u8 110))),qm 32 33]) (.cond (.tmp 32) (.reg [qq 34 (.call 35 [(.tmp 4),(.const (.int .u8 10))])]) (.seq (.reg [qq 36 (.bin .eql (.tmp 28) (.const (.int .u8 114))),qm 35 36]) (.cond (.tmp 35) (.reg [qq 37 (.call 35 [(.tmp 4),(.const (.int .u8 13))])]) (.seq (.reg [qq 2 (.mv (.const (S []))),qq 3 (.mv (kb false))]) .ret))))))))))))) (.reg [qm 10 5,qq 11 (.bin .add (.tmp 10) (ki 1)),qm 5 11])))
def c16:MC:=(.seq (.reg [qq 2 (.mv (.const (S []))),qq 3 (.mv (kb false))]) (.seq (.reg [qq 4 (.alc 67 [(.pointer none),(.slice none 0 0)])]) (.seq (.seq (.reg [qq 5 (.mv (ki 0))]) (.blk 0 (.loop c16l1))) (.seq (.reg [qq 38 (.call 36 [(.tmp 4)]),qm 2 38,qq 3 (.mv (kb true))]) .ret))))
theorem k16:conv Tryz.prog 39 (Tryz.f16.body.getD .skip)=c16:=by kernel_rfl
theorem in16 {a0:Value} {w:World} {R:Value→World→Prop} (h:G Tryz.prog Tryz.f16 39 [.c c16] R (frL 0 [a0]) w):Ret Tryz.prog 16 #[a0] w R:=G.enter (args:=[a0]) Tryz.func16 (c:=Tryz.f16.body.getD .skip) (by kernel_rfl) (by kernel_rfl) (by simp) k16 h
theorem unspellL_spec (s:Str) (w:World) (hl:s.length≤100000000000):Pu Tryz.prog 16 #[S s] w (.tuple #[S ((unL s).getD []),.bool (unL s).isSome]):=by
  refine in16 ?_
  have hS:=Sep.start w
  repeat' (first|((with_reducible apply G.a);exact rfl)|refine G.reg fun K hK=>?_|(with_reducible (refine hK _ _ ?_);clear hK K)|(have hk:=hK;clear hk;simp (disch:=first|exact dis|fail) only [push_cast,↓reduceIte,zq1,zq2,zq3,zq4,zq5,fct])|(refine zalc ?_;intro gb wb hS)|(refine G.cn ?_ ?_<;>intro hc<;>first|(with_reducible exact False.elim hc)|(exfalso;omega)|skip))
  have hS:=hS.newB 5
  refine G.loop (fun r w'=>∃ (k:Nat) (out:Str),k≤s.length∧out.length≤k∧r 5=I k∧r 4=.pointer (some ⟨gb,0,none⟩)∧r 0=S s∧unL s=(unL (s.drop k)).map (out++·)∧Sep w w' [bldC gb 67 5 out]) (fun r _=>s.length - toN (r 5)) ?_ ?_
  · refine ⟨0,[],?_⟩
    ((repeat' apply And.intro)<;>first|exact dj|(simp only [push_cast,↓reduceIte,zq1,zq2,zq3,zq4,zq5]<;>omega)|skip)
    all_goals simp
  · clear hS
    rintro u wl ⟨k,out,hk,ho,h5,h4,h0,e,hS⟩ ih
    by_cases hlt:(k:Int) < s.length
    · rw [dropB s k hlt] at e
      have hd2:=dropB s (k+1)
      have ht:((k:Int)+1).toNat=k+1:=by omega
      (have fct:=(And.intro @h5 (And.intro @h4 (And.intro @h0 @ht)));repeat' (first|((with_reducible apply G.a);exact rfl)|refine G.reg fun K hK=>?_|(with_reducible (refine hK _ _ ?_);clear hK K)|(have hk:=hK;clear hk;simp (disch:=first|exact dis|fail) only [push_cast,↓reduceIte,zq1,zq2,zq3,zq4,zq5,fct])|(refine zalc ?_;intro gb wb hS)|((with_reducible (show CallK _ 35 [_,Value.int _ 92] _ _ _ _));refine zco 35 (bwb_c 92 92 rfl hS .h (by omega)) ?_;rintro vb wb ⟨rfl,hS⟩)|((with_reducible (show CallK _ 35 [_,Value.int _ 10] _ _ _ _));refine zco 35 (bwb_c 10 10 rfl hS .h (by omega)) ?_;rintro vb wb ⟨rfl,hS⟩)|((with_reducible (show CallK _ 35 [_,Value.int _ 13] _ _ _ _));refine zco 35 (bwb_c 13 13 rfl hS .h (by omega)) ?_;rintro vb wb ⟨rfl,hS⟩)|((with_reducible (show CallK _ 35 [_,Value.int _ (Nat.cast _)] _ _ _ _));refine zco 35 (bwb_spec (s.getD k 0) hS .h (by omega)) ?_;rintro vb wb ⟨rfl,hS⟩)|(refine G.cn ?_ ?_<;>intro hc<;>first|(with_reducible exact False.elim hc)|(exfalso;omega)|skip)))<;>(try clear fct)
      all_goals first
        | (rw [unL_o _ (u8_ne (n:=92) rfl (by assumption)),Option.map_map,app_comp] at e;(refine ih _ _ ⟨k+1,out++[s.getD k 0],?_⟩ ?_;rotate_left;(focus ((simp only [push_cast,↓reduceIte,zq1,zq2,zq3,zq4,zq5,toN_i,h5,h4,h0]<;>omega)));((repeat' apply And.intro)<;>first|exact dj|(simp only [push_cast,↓reduceIte,zq1,zq2,zq3,zq4,zq5,h5,h4,h0]<;>omega)|skip));done)
        | (rw [u8_eq (c:=92) (n:=92) rfl (show ((s.getD k 0).toNat:Int)=92 by assumption),List.drop_eq_nil_of_le (show s.length≤k+1 by omega),unL_one] at e;(have fct:=(And.intro @h5 (And.intro @h4 (And.intro @h0 @e)));(first|refine G.r1 ?_|refine G.r2 ?_|refine G.r3 ?_|refine G.r0 ?_|refine G.d0 ?_);(try simp (disch:=first|exact dis|fail) only [push_cast,↓reduceIte,zq1,zq2,zq3,zq4,zq5,fct]);(try clear fct));exact ⟨rfl,Sep.xt (by assumption)⟩)
        | skip
      all_goals rw [u8_eq (c:=92) (n:=92) rfl (show ((s.getD k 0).toNat:Int)=92 by assumption),hd2 (by push_cast;omega),unL_pair] at e
      · rw [if_pos (u8_eq (n:=92) rfl (by assumption)),Option.map_map,app_comp] at e
        (refine ih _ _ ⟨k+2,out++[92],?_⟩ ?_;rotate_left;(focus ((simp only [push_cast,↓reduceIte,zq1,zq2,zq3,zq4,zq5,toN_i,h5,h4,h0,ht]<;>omega)));((repeat' apply And.intro)<;>first|exact dj|(simp only [push_cast,↓reduceIte,zq1,zq2,zq3,zq4,zq5,h5,h4,h0,ht]<;>omega)|skip))
      · rw [if_neg (u8_ne (n:=92) rfl (by assumption)),if_pos (u8_eq (n:=110) rfl (by assumption)),Option.map_map,app_comp] at e
        (refine ih _ _ ⟨k+2,out++[10],?_⟩ ?_;rotate_left;(focus ((simp only [push_cast,↓reduceIte,zq1,zq2,zq3,zq4,zq5,toN_i,h5,h4,h0,ht]<;>omega)));((repeat' apply And.intro)<;>first|exact dj|(simp only [push_cast,↓reduceIte,zq1,zq2,zq3,zq4,zq5,h5,h4,h0,ht]<;>omega)|skip))
      · rw [if_neg (u8_ne (n:=92) rfl (by assumption)),if_neg (u8_ne (n:=110) rfl (by assumption)),if_pos (u8_eq (n:=114) rfl (by assumption)),Option.map_map,app_comp] at e
        (refine ih _ _ ⟨k+2,out++[13],?_⟩ ?_;rotate_left;(focus ((simp only [push_cast,↓reduceIte,zq1,zq2,zq3,zq4,zq5,toN_i,h5,h4,h0,ht]<;>omega)));((repeat' apply And.intro)<;>first|exact dj|(simp only [push_cast,↓reduceIte,zq1,zq2,zq3,zq4,zq5,h5,h4,h0,ht]<;>omega)|skip))
      · rw [if_neg (u8_ne (n:=92) rfl (by assumption)),if_neg (u8_ne (n:=110) rfl (by assumption)),if_neg (u8_ne (n:=114) rfl (by assumption))] at e
        (have fct:=(And.intro @h5 (And.intro @h4 (And.intro @h0 @e)));(first|refine G.r1 ?_|refine G.r2 ?_|refine G.r3 ?_|refine G.r0 ?_|refine G.d0 ?_);(try simp (disch:=first|exact dis|fail) only [push_cast,↓reduceIte,zq1,zq2,zq3,zq4,zq5,fct]);(try clear fct))
        exact ⟨rfl,Sep.xt (by assumption)⟩
    · (have fct:=(And.intro @h5 (And.intro @h4 @h0));repeat' (first|((with_reducible apply G.a);exact rfl)|refine G.reg fun K hK=>?_|(with_reducible (refine hK _ _ ?_);clear hK K)|(have hk:=hK;clear hk;simp (disch:=first|exact dis|fail) only [push_cast,↓reduceIte,zq1,zq2,zq3,zq4,zq5,fct])|(refine zalc ?_;intro gb wb hS)|(refine zco 36 (bst_spec hS .h) ?_;rintro vb wb ⟨rfl,hS⟩)|(refine G.cn ?_ ?_<;>intro hc<;>first|(with_reducible exact False.elim hc)|(exfalso;omega)|skip)))<;>(try clear fct)
      rw [List.drop_eq_nil_of_le (by omega)] at e
      have e2:unL s=some out:=by rw [e];simp [unL]
      (have fct:=(And.intro @h5 (And.intro @h4 (And.intro @h0 @e2)));(first|refine G.r1 ?_|refine G.r2 ?_|refine G.r3 ?_|refine G.r0 ?_|refine G.d0 ?_);(try simp (disch:=first|exact dis|fail) only [push_cast,↓reduceIte,zq1,zq2,zq3,zq4,zq5,fct]);(try clear fct))
      exact ⟨rfl,Sep.xt (by assumption)⟩
end Go.Proofs.YtllanbmpacgigaaGreatDoor
namespace Go.Proofs.YtllanbmpacgigaaGreatDoor
open Nat renaming reduceAdd→zq1,reduceLeDiff→zq2,reduceEqDiff→zq3,reduceLT→zq4
open Int renaming reduceToNat→zq5
set_option linter.unusedSimpArgs false
set_option linter.unusedVariables false
open Go.RowKit
theorem gRow_some {r:List Str} {b b':Int} (hb:0≤b) (h:gRow r b=some b'):(totL r:Int)≤b∧b'=b - totL r:=by
  rw [gRow_eq r b hb] at h
  split at h
  · simp at h;exact ⟨by assumption,h.symm⟩
  · simp at h
theorem gTab_no:∀ (t:List (List Str)) (f b:Int),0≤b→gTab t f b=false→∀ r∈t,(r.length:Int)≤f∧∀ x∈r,(x.length:Int)≤b
  | [],_,_,_,_,r,hr=>by simp at hr
  | q :: t,f,b,hb,h,r,hr=>by
    rw [gTab] at h
    split at h
    · simp at h
    · rename_i h1
      cases hg:gRow q b with
      | none=>rw [hg] at h;simp at h
      | some b' =>
        rw [hg] at h
        obtain ⟨h2,h3⟩:=gRow_some hb hg
        rcases List.mem_cons.1 hr with e|hr
        · rw [e]
          exact ⟨by omega,fun x hx=>by have:=totL_mem hx;omega⟩
        · obtain ⟨h4,h5⟩:=gTab_no t (f - q.length) b' (by omega) h r hr
          exact ⟨by omega,fun x hx=>by have:=h5 x hx;omega⟩
theorem great_no {t:List (List Str)} {n f b:Int} (hb:0≤b) (h:greatM t n f b=false):(t.length:Int)≤n∧∀ r∈t,(r.length:Int)≤f∧∀ x∈r,(x.length:Int)≤b:=by
  unfold greatM at h
  split at h
  · simp at h
  · exact ⟨by omega,gTab_no t f b hb h⟩
end Go.Proofs.YtllanbmpacgigaaGreatDoor
