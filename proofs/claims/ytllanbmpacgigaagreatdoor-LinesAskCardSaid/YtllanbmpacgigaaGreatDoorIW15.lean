/- Texts of the proof, joined. -/
import Derived.Test.YtllanbmpacgigaaGreatDoorIP15
import Derived.Test.YtllanbmpacgigaaGreatDoorIR02
import Derived.Test.YtllanbmpacgigaaGreatDoorIW02
namespace Go.Proofs.YtllanbmpacgigaaGreatDoor
open Operand renaming tmp→Y,const→yc
open MC renaming seq→Z,reg→yr,skip→yk,cond→yd
open MO renaming call→yl,bin→yb
open Nat renaming reduceAdd→zq1,reduceLeDiff→zq2,reduceEqDiff→zq3,reduceLT→zq4
open Int renaming reduceToNat→zq5
set_option linter.unusedSimpArgs false
set_option linter.unusedVariables false
attribute [local irreducible] SemK UnitK StK AlcK BslK CallK CallV Instr.box Builtin.append_ Instr.makeSlice Instr.makeMap Instr.lookup Instr.mapUpdate Instr.sliceAt convert
open Go.RowKit
def c181:MC:=(Z (yr [qq 4 (.mv (ki 0)),qq 5 (.mv (kb false))]) (Z (yr [qm 9 0,qq 10 (.nck (Y 9)),qq 11 (.fad 1 (Y 10)),qq 12 (.ld none (Y 11)),qm 13 1,qq 14 (.raw (.lookup 260 (Y 12) (Y 13) true) 99),qm 8 14,qq 15 (.ext 0 (Y 8)),qq 16 (.ext 1 (Y 8)),qm 6 15,qm 7 16]) (Z (yr [qm 17 6,qm 18 7,qm 4 17,qm 5 18]) .ret)))
theorem at_spec {g r:Nat} {sv:Value} {names:List Str} {w:World} (hB:Blk w g 262 [sv,.map (some r)].toArray) (hM:MapRd w r I (mtM names)) (name:Str) :
 Pu Tryz.prog 181 #[.pointer (some ⟨g,0,none⟩),S name] w (.tuple #[I (max (atM names name) 0),.bool (decide (0≤atM names name))]):=by
 refine En 19 c181 Tryz.func181 ?_
 have hS:=Sep.start w
 repeat' (first|refine G.reg fun K hK=>?_|(refine kM ?_;clear hK K)|refine sA ?_|(refine zlk ?_))
 (have fct:=(aI @mtM_get @mtM_some);refine rM ?_)
 exact Sep.xt ‹_›
def c103:MC:=(Z (yr [qq 2 (.mv (yc (.slice none 0 0)))]) (Z (Z (yr [qm 3 0,qq 4 (.raw (.binOp .eql 22 (Y 3) (yc (.slice none 0 0)) 22) 4)]) (yd (Y 4) (Z (yr [qq 2 (.mv (yc (.slice none 0 0)))]) .ret) yk)) (Z (yr [qq 5 (.bsl 9 [] 0 []),qm 6 0,qq 7 (.raw (.call ⟨(.builtin .append),#[(Y 5),(Y 6)],#[22,22]⟩) 22),qm 2 7]) .ret)))
theorem clone_spec {v:Value} {l:List Str} {w:World} (hr:Rd w eS v l) (hl:l.length≤1000000000000):Ret Tryz.prog 103 #[v] w fun v' w'=>Sep w w' [accC v' 9 eS l]:=by
 refine En 8 c103 Tryz.func103 ?_
 have hS:=Sep.start w
 repeat' (first|refine G.reg fun K hK=>?_|(refine kM ?_;clear hK K)|refine sA ?_|(refine zbsl ?_;intro gb wb hS)|(refine zn1 ?_)|(refine zn2 ?_)|(refine zn3 ?_)|(refine zn4 ?_)|(refine G.cn ?_ ?_<;>intro hc<;>try exact zxf))
 ·obtain ⟨p,cap,rfl,h2,h3,h4,h5⟩:=hr
  have:l=[]:=by
   rcases Nat.eq_zero_or_pos l.length with h|h
   ·exact List.eq_nil_of_length_eq_zero h
   ·obtain ⟨a,ha,_⟩:=h5 h;subst ha;simp [isNil] at hc
  subst this
  refine rM ?_
  exact hS.nil _ _
 ·have hS:=Sep.toAcc (E:=eS) ([]:List Str) hS Up.h rfl rfl ze ze
  ((refine zan ?_;intro vb wb hS))
  repeat' (first|refine G.reg fun K hK=>?_|(refine kM ?_;clear hK K)|refine sA ?_|(refine zbsl ?_;intro gb wb hS)|(refine G.cn ?_ ?_<;>intro hc<;>try exact zxf))
  repeat' (first|refine G.reg fun K hK=>?_|(refine kM ?_;clear hK K)|refine sA ?_|(refine zbsl ?_;intro gb wb hS)|(refine G.cn ?_ ?_<;>intro hc<;>try exact zxf))
  refine rM ?_
  exact hS
def c180l1:MC:=(Z (yr [qq 19 (yb .lss (Y 18) (Y 17))]) (Z (yd (Y 19) yk (.exit 0)) (Z (.blk 1 (Z (yr [qm 20 18,qq 21 (.adr 1 (Y 16) (Y 18)),qq 22 (.ld none (Y 21)),qm 6 20,qm 7 22]) (Z (Z (yr [qm 23 7,qq 24 (yl 104 [(Y 23)]),qq 25 (.un .not (Y 24))]) (yd (Y 25) (Z (yr [qm 26 6,qq 2 (.mv (yc (.pointer none))),qm 3 26,qq 4 (.mv (ki 14))]) .ret) yk)) (Z (Z (yr [qm 28 5,qm 29 7,qq 30 (.raw (.lookup 260 (Y 28) (Y 29) true) 99),qm 27 30,qq 31 (.ext 0 (Y 27)),qq 32 (.ext 1 (Y 27)),qm 8 31,qm 9 32]) (Z (yr [qm 33 9]) (yd (Y 33) (Z (yr [qm 34 6,qq 2 (.mv (yc (.pointer none))),qm 3 34,qq 4 (.mv (ki 15))]) .ret) yk))) (yr [qm 35 5,qm 36 7,qm 37 6,qn (.raw (.mapUpdate 260 (Y 35) (Y 36) (Y 37)) 0)]))))) (yr [qq 38 (yb .add (Y 18) (ki 1)),qm 18 38]))))
def c180:MC:=(Z (yr [qq 2 (.mv (yc (.pointer none))),qq 3 (.mv (ki 0)),qq 4 (.mv (ki 0))]) (Z (Z (yr [qm 10 0,qq 11 (.len (Y 10)),qq 12 (yb .eql (Y 11) (ki 0))]) (yd (Y 12) (Z (yr [qq 2 (.mv (yc (.pointer none))),qq 3 (.mv (ki 0)),qq 4 (.mv (ki 13))]) .ret) yk)) (Z (yr [qm 13 0,qq 14 (.len (Y 13)),qq 15 (.raw (.makeMap 260 (.some (Y 14))) 260),qm 5 15]) (Z (Z (yr [qm 16 0,qq 17 (.len (Y 16)),qq 18 (.mv (ki 0))]) (.blk 0 (.loop c180l1))) (Z (yr [qm 39 0,qq 40 (yl 103 [(Y 39)]),qm 41 5,qq 42 (.bld [(.slice none 0 0),(.map none)] [⟨0,⟨1,(Y 40)⟩⟩,⟨1,⟨1,(Y 41)⟩⟩]),qq 43 (.raw (.box 262 (Y 42)) 240),qm 44 0,qq 45 (.len (Y 44)),qm 2 43,qm 3 45,qq 4 (.mv (ki 0))]) .ret)))))
theorem new_spec {v:Value} {names:List Str} {w:World} (hr:Rd w eS v names) (hl:names.length≤1000000000) (hl2:∀ s∈names,s.length≤100000000000) :
 Ret Tryz.prog 180 #[v] w fun res w'=>((newM names).2≠0∧res=.tuple #[.pointer none,I (newM names).1,I (newM names).2]∧Ext w w') ∨
  ((newM names).2=0∧∃ g sv r,res=.tuple #[.pointer (some ⟨g,0,none⟩),I names.length,I 0]∧Sep w w' [boxC g 262 [sv,.map (some r)],accC sv 9 eS names,mapC r I (mtM names)]):=by
 refine En 46 c180 Tryz.func180 ?_
 have hS:=Sep.start w
 have hbd:=hr.bd
 repeat' (first|refine G.reg fun K hK=>?_|(refine kM ?_;clear hK K)|refine sA ?_|(((with_reducible refine gBox ?_);refine zbox ?_);intro gb wb hS)|(refine zmm I ?_;intro gb wb hS)|(refine G.cn ?_ ?_<;>intro hc<;>try exact zxf))
 ·refine rM ?_
  left
  have h0:newM names=(0,13):=by simp only [newM];rw [if_pos zo]
  rw [h0]
  exact ⟨by decide,rfl,Sep.xt ‹_›⟩
 ·have h0:newM names=newF [] names:=by simp only [newM];rw [if_neg zo]
  refine G.loop (fun r w'=>∃ k:Nat,k≤names.length∧r 18=I k∧r 17=I names.length∧r 16=v∧r 0=v∧r 5=.map (some gb)∧newM names=newF (names.take k) (names.drop k)∧Sep w w' [mapC gb I (mtM (names.take k))]) (fun r _=>names.length - toN (r 18)) ?_ ?_
  ·refine ⟨0,?_⟩
   rw [←mtM_nil] at hS
   ((repeat' apply aI)<;>first|exact dj|(simp only [push_cast,↓reduceIte,zq1,zq2,zq3,zq4,zq5]<;>omega)|skip)
  ·rintro u wl ⟨k,hk,h18,h17,h16,hu0,h5,e,hS⟩ ih
   (have fct:=(a7 @h18 @h17 @h16 @hu0 @h5 @mtM_get @mtM_some);repeat' (first|refine G.reg fun K hK=>?_|(refine kM ?_;clear hK K)|refine sA ?_|(((with_reducible refine gBox ?_);refine zbox ?_);intro gb wb hS)|(refine zcp 104 (valid_spec _ _ (by have:=hl2 _ (getD_mem names k zo);omega)) ?_;intro wb hS)|(refine zlk ?_)|(refine zmu ?_;intro wb hS)|(refine zco 103 (clone_spec (hr.ext hS.x) zo) ?_;rintro vb wb hS2;have hS:=hS2.ap;simp only [apps] at hS)|(refine G.cn ?_ ?_<;>intro hc<;>try exact zxf)))<;>(try clear fct)
   ·(have fct:=(a5 @h18 @h17 @h16 @hu0 @h5);refine rM ?_)
    left
    have h1:newM names=((k:Int),14):=by
     rw [e,dropD _ _ ‹_›,newF,if_neg (by rw [hc];simp)]
     simp;omega
    rw [h1]
    exact ⟨by simp,rfl,Sep.xt ‹_›⟩
   ·(have fct:=(a5 @h18 @h17 @h16 @hu0 @h5);refine rM ?_)
    left
    have h1:newM names=((k:Int),15):=by
     rw [e,dropD _ _ ‹_›,newF,if_pos ‹_›,if_pos hc]
     simp;omega
    rw [h1]
    exact ⟨by simp,rfl,Sep.xt ‹_›⟩
   ·rw [mtM_put _ _ _ (by simp;omega) zo,←takeD _ _ ‹_›] at hS
    (refine ih _ _ ⟨k+1,?_⟩ ?_;rotate_left;(focus ((simp only [push_cast,↓reduceIte,zq1,zq2,zq3,zq4,zq5,toN_i,h18,h17,h16,hu0,h5]<;>omega)));((repeat' apply aI)<;>first|exact dj|(simp only [push_cast,↓reduceIte,zq1,zq2,zq3,zq4,zq5,h18,h17,h16,hu0,h5]<;>omega)|skip))
    rw [e,dropD _ _ ‹_›,newF,if_pos ‹_›,if_neg zo,←takeD _ _ ‹_›]
   ·(have fct:=(a5 @h18 @h17 @h16 @hu0 @h5);refine rM ?_)
    right
    have hk2:k=names.length:=by omega
    subst hk2
    rw [List.take_length,List.drop_length] at e
    rw [List.take_length] at hS
    refine ⟨by rw [e];rfl,_,_,_,rfl,hS⟩
theorem same_step {α:Type} [Inhabited α] (a b:List α) (k:Nat) (hl:a.length=b.length) (hk:(k:Int) < a.length) (h:a.take k=b.take k) (he:a.getD k default=b.getD k default):a.take (k+1)=b.take (k+1):=by
 rw [takeD a k hk,takeD b k zo,h,he]
theorem same_no {α:Type} [Inhabited α] (a b:List α) (k:Nat) (he:¬ a.getD k default=b.getD k default):a≠b:=fun h=>he (by rw [h])
def c12l1:MC:=(Z (yr [qq 14 (yb .lss (Y 13) (Y 12))]) (Z (yd (Y 14) yk (.exit 0)) (Z (.blk 1 (Z (yr [qm 15 13,qm 5 15]) (Z (.drg [qm 16 0,qm 17 5,qq 18 (.adr 1 (Y 16) (Y 17)),qq 19 (.ld none (Y 18)),qm 20 1,qm 21 5,qq 22 (.adr 1 (Y 20) (Y 21)),qq 23 (.ld none (Y 22)),qq 24 (yb .neq (Y 19) (Y 23))] none) (yd (Y 24) (Z (yr [qq 4 (.mv (kb false))]) .ret) yk)))) (yr [qq 25 (yb .add (Y 13) (ki 1)),qm 13 25]))))
def c12:MC:=(Z (yr [qq 4 (.mv (kb false))]) (Z (Z (yr [qm 6 0,qq 7 (.len (Y 6)),qm 8 1,qq 9 (.len (Y 8)),qq 10 (yb .neq (Y 7) (Y 9))]) (yd (Y 10) (Z (yr [qq 4 (.mv (kb false))]) .ret) yk)) (Z (Z (yr [qm 11 0,qq 12 (.len (Y 11)),qq 13 (.mv (ki 0))]) (.blk 0 (.loop c12l1))) (Z (yr [qq 4 (.mv (kb true))]) .ret))))
theorem same05_spec {va vb:Value} {a b:List Str} {w:World} (ha:Rd w eS va a) (hb:Rd w eS vb b):Pu Tryz.prog 12 #[va,vb] w (.bool (decide (a=b))):=by
 refine En 26 c12 Tryz.func12 ?_
 have hS:=Sep.start w
 have hbd:=ha.bd
 repeat' (first|(refine gO ?_;intro K hK)|(refine kP ?_;clear hK K)|(intro wd hxd;have hS:=Sep.xx hxd)|refine sA ?_|(refine G.cn ?_ ?_<;>intro hc<;>try exact zxf))
 ·refine rM ?_
  (refine ⟨?_,Sep.xt ‹_›⟩)
  rw [decide_eq_false (fun h=>hc (by rw [h]))]
 ·refine G.loop (fun r w'=>∃ k:Nat,k≤a.length∧r 13=I k∧r 12=I a.length∧r 0=va∧r 1=vb∧a.take k=b.take k∧Sep w w' []) (fun r _=>a.length - toN (r 13)) ?_ ?_
  ·refine ⟨0,?_⟩
   ((repeat' apply aI)<;>first|exact dj|(simp only [push_cast,↓reduceIte,zq1,zq2,zq3,zq4,zq5]<;>omega)|skip)
  ·rintro u wl ⟨k,hk,h13,h12,h0,h1,e,hS⟩ ih
   (have fct:=(a4 @h13 @h12 @h0 @h1);repeat' (first|(refine gO ?_;intro K hK)|(refine kP ?_;clear hK K)|(intro wd hxd;have hS:=Sep.xx hxd)|refine sA ?_|(refine G.cn ?_ ?_<;>intro hc<;>try exact zxf)))<;>(try clear fct)
   ·(have fct:=(a4 @h13 @h12 @h0 @h1);refine rM ?_)
    (refine ⟨?_,Sep.xt ‹_›⟩)
    rw [decide_eq_false (same_no a b k hc)]
   ·(refine ih _ _ ⟨k+1,?_⟩ ?_;rotate_left;(focus ((simp only [push_cast,↓reduceIte,zq1,zq2,zq3,zq4,zq5,toN_i,h13,h12,h0,h1]<;>omega)));((repeat' apply aI)<;>first|exact dj|(simp only [push_cast,↓reduceIte,zq1,zq2,zq3,zq4,zq5,h13,h12,h0,h1]<;>omega)|skip))
    exact same_step a b k zo ‹_› e hc
   ·(have fct:=(a4 @h13 @h12 @h0 @h1);refine rM ?_)
    (refine ⟨?_,Sep.xt ‹_›⟩)
    rw [List.take_of_length_le zo,List.take_of_length_le zo] at e
    rw [decide_eq_true e]
def c37l1:MC:=(Z (yr [qq 34 (yb .lss (Y 33) (Y 32))]) (Z (yd (Y 34) yk (.exit 2)) (Z (.blk 3 (Z (yr [qq 35 (.adr 1 (Y 31) (Y 33)),qq 36 (.ld none (Y 35)),qm 12 36]) (Z (Z (yr [qm 37 12,qq 38 (.lenS (Y 37)),qm 39 3,qq 40 (yb .gtr (Y 38) (Y 39))]) (yd (Y 40) (Z (yr [qq 8 (.mv (kb true))]) .ret) yk)) (yr [qm 41 3,qm 42 12,qq 43 (.lenS (Y 42)),qq 44 (yb .sub (Y 41) (Y 43)),qm 3 44])))) (yr [qq 45 (yb .add (Y 33) (ki 1)),qm 33 45]))))
def c37l2:MC:=(Z (yr [qq 20 (yb .lss (Y 19) (Y 18))]) (Z (yd (Y 20) yk (.exit 0)) (Z (.blk 1 (Z (yr [qq 21 (.adr 1 (Y 17) (Y 19)),qq 22 (.ld none (Y 21)),qm 10 22]) (Z (Z (yr [qm 23 10,qq 24 (.len (Y 23)),qm 25 2,qq 26 (yb .gtr (Y 24) (Y 25))]) (yd (Y 26) (Z (yr [qq 8 (.mv (kb true))]) .ret) yk)) (Z (yr [qm 27 2,qm 28 10,qq 29 (.len (Y 28)),qq 30 (yb .sub (Y 27) (Y 29)),qm 2 30]) (Z (yr [qm 31 10,qq 32 (.len (Y 31)),qq 33 (.mv (ki 0))]) (.blk 2 (.loop c37l1))))))) (yr [qq 46 (yb .add (Y 19) (ki 1)),qm 19 46]))))
def c37:MC:=(Z (yr [qq 8 (.mv (kb false))]) (Z (Z (yr [qm 13 0,qq 14 (.len (Y 13)),qm 15 1,qq 16 (yb .gtr (Y 14) (Y 15))]) (yd (Y 16) (Z (yr [qq 8 (.mv (kb true))]) .ret) yk)) (Z (Z (yr [qm 17 0,qq 18 (.len (Y 17)),qq 19 (.mv (ki 0))]) (.blk 0 (.loop c37l2))) (Z (yr [qq 8 (.mv (kb false))]) .ret))))
def c97:MC:=(Z (yr [qq 2 (.mv (yc (S [])))]) (Z (Z (yr [qm 3 0]) (.blk 0 (Z (yr [qq 5 (yb .eql (Y 3) (ki 1)),qm 4 5]) (yd (Y 4) (Z (yr [qq 2 (.mv (yc (S [116,101,120,116])))]) .ret) (Z (yr [qq 7 (yb .eql (Y 3) (ki 2)),qm 6 7]) (yd (Y 6) (Z (yr [qq 2 (.mv (yc (S [105,110,116])))]) .ret) (Z (yr [qq 9 (yb .eql (Y 3) (ki 3)),qm 8 9]) (yd (Y 8) (Z (yr [qq 2 (.mv (yc (S [98,111,111,108])))]) .ret) yk)))))))) (Z (yr [qq 2 (.mv (yc (S [])))]) .ret)))
theorem sword_spec (k:Int) (w:World):Pu Tryz.prog 97 #[I k] w (S (wordM k)):=by
 refine En 10 c97 Tryz.func97 ?_
 have hS:=Sep.start w
 unfold wordM
 repeat' (first|refine G.reg fun K hK=>?_|(refine kM ?_;clear hK K)|refine sA ?_|(refine G.cn ?_ ?_<;>intro hc<;>try exact zxf))
 all_goals
  refine rM ?_
  (refine ⟨?_,Sep.xt ‹_›⟩)
  first|rw [if_pos zo]|rw [if_neg zo,if_pos zo]|rw [if_neg zo,if_neg zo,if_pos zo]|rw [if_neg zo,if_neg zo,if_neg zo]
def c96l1:MC:=(Z (yr [qq 14 (yb .lss (Y 13) (Y 12))]) (Z (yd (Y 14) yk (.exit 0)) (Z (.blk 1 (Z (yr [qm 15 13,qq 16 (.adr 3 (Y 11) (Y 13)),qq 17 (.ld (.some 3) (Y 16)),qq 6 (.alc 121 [(S []),(.int .i64 0),(.bool false)]),qm 5 15,qn (.st 3 (Y 6) (Y 17))]) (Z (.blk 2 (Z (yr [qq 19 (.fad 1 (Y 6)),qq 20 (.ld none (Y 19)),qq 21 (yl 97 [(Y 20)]),qq 22 (yb .eql (Y 21) (yc (S []))),qm 18 22]) (yd (Y 18) (Z (yr [qm 23 5,qm 2 23,qq 3 (.mv (ki 21))]) .ret) (Z (yr [qq 25 (.fad 0 (Y 6)),qq 26 (.ld none (Y 25)),qq 27 (yl 104 [(Y 26)]),qq 28 (.un .not (Y 27)),qm 24 28]) (yd (Y 24) (Z (yr [qm 29 5,qm 2 29,qq 3 (.mv (ki 14))]) .ret) (Z (yr [qm 31 4,qq 32 (.fad 0 (Y 6)),qq 33 (.ld none (Y 32)),qq 34 (.raw (.lookup 149 (Y 31) (Y 33) false) 4),qm 30 34]) (yd (Y 30) (Z (yr [qm 35 5,qm 2 35,qq 3 (.mv (ki 15))]) .ret) yk))))))) (yr [qm 36 4,qq 37 (.fad 0 (Y 6)),qq 38 (.ld none (Y 37)),qn (.raw (.mapUpdate 149 (Y 36) (Y 38) (kb true)) 0)])))) (yr [qq 39 (yb .add (Y 13) (ki 1)),qm 13 39]))))
def c96:MC:=(Z (yr [qq 2 (.mv (ki 0)),qq 3 (.mv (ki 0))]) (Z (Z (yr [qm 7 0,qq 8 (.len (Y 7)),qq 9 (yb .eql (Y 8) (ki 0))]) (yd (Y 9) (Z (yr [qq 2 (.mv (ki 0)),qq 3 (.mv (ki 13))]) .ret) yk)) (Z (yr [qq 10 (.raw (.makeMap 149 none) 149),qm 4 10]) (Z (Z (yr [qm 11 0,qq 12 (.len (Y 11)),qq 13 (.mv (ki 0))]) (.blk 0 (.loop c96l1))) (Z (yr [qm 40 0,qq 41 (.len (Y 40)),qm 2 41,qq 3 (.mv (ki 0))]) .ret)))))
theorem check_spec {v:Value} {l:List Col} {w:World} (hr:Rd w eC v l) (hl2:∀ c∈l,c.name.length≤100000000000):Pu Tryz.prog 96 #[v] w (.tuple #[I (checkM (l.map nkC)).1,I (checkM (l.map nkC)).2]):=by
 refine En 42 c96 Tryz.func96 ?_
 have hS:=Sep.start w
 have hbd:=hr.bd
 repeat' (first|refine G.reg fun K hK=>?_|(refine kM ?_;clear hK K)|refine sA ?_|(refine zalc ?_;intro gb wb hS)|((with_reducible refine gSt ?_);refine zs2 ?_;intro wb hS)|(refine zmm Value.bool ?_;intro gb wb hS)|(refine G.cn ?_ ?_<;>intro hc<;>try exact zxf))
 ·refine rM ?_
  have h0:checkM (l.map nkC)=(0,13):=by simp only [checkM,List.length_map];rw [if_pos zo]
  rw [h0]
  exact ⟨rfl,Sep.xt ‹_›⟩
 ·have h0:checkM (l.map nkC)=checkF [] (l.map nkC):=by simp only [checkM,List.length_map];rw [if_neg zo]
  refine G.loop (fun r w'=>∃ k:Nat,k≤l.length∧r 13=I k∧r 12=I l.length∧r 11=v∧r 0=v∧r 4=.map (some gb)∧checkM (l.map nkC)=checkF ((l.map (·.name)).take k) ((l.map nkC).drop k)∧Sep w w' [mapC gb Value.bool (mbM ((l.map (·.name)).take k))]) (fun r _=>l.length - toN (r 13)) ?_ ?_
  ·refine ⟨0,?_⟩
   rw [←mbM_nil] at hS
   ((repeat' apply aI)<;>first|exact dj|(simp only [push_cast,↓reduceIte,zq1,zq2,zq3,zq4,zq5]<;>omega)|skip)
  ·rintro u wl ⟨k,hk,h13,h12,h11,hu0,h4,e,hS⟩ ih
   by_cases hlt:(k:Int) < l.length
   ·have hlen:=hl2 _ (getD_mem l k hlt)
    have hnk:(l.map nkC).drop k=((l.getD k default).name,(l.getD k default).kind) :: (l.map nkC).drop (k+1):=mapD nkC l k hlt
    have htk:=mapT (·.name) l k hlt
    have hll:=mapL (·.name) l k hk
    rw [hnk,checkF_cons,hll] at e
    (have fct:=(a6 @h13 @h12 @h11 @hu0 @h4 @mbM_get);repeat' (first|refine G.reg fun K hK=>?_|(refine kM ?_;clear hK K)|refine sA ?_|(refine zalc ?_;intro gb wb hS)|((with_reducible refine gSt ?_);refine zs2 ?_;intro wb hS)|(refine zcp 97 (sword_spec _ _) ?_;intro wb hS)|(refine zcp 104 (valid_spec _ _ zo) ?_;intro wb hS)|(refine zlk ?_)|(refine zmu ?_;intro wb hS)|(refine G.cn ?_ ?_<;>intro hc<;>try exact zxf)))<;>(try clear fct)
    ·(have fct:=(a5 @h13 @h12 @h11 @hu0 @h4);refine rM ?_)
     (refine ⟨?_,Sep.xt ‹_›⟩)
     rw [if_neg ((wordM_nil _).1 hc)] at e
     rw [e]
    ·(have fct:=(a5 @h13 @h12 @h11 @hu0 @h4);refine rM ?_)
     (refine ⟨?_,Sep.xt ‹_›⟩)
     rw [if_pos (by have:=mt (wordM_nil _).2 ‹_›;omega),if_neg (by rw [hc];simp)] at e
     rw [e]
    ·(have fct:=(a5 @h13 @h12 @h11 @hu0 @h4);refine rM ?_)
     (refine ⟨?_,Sep.xt ‹_›⟩)
     rw [if_pos (by have:=mt (wordM_nil _).2 ‹_›;omega),if_pos ‹_›,if_pos hc] at e
     rw [e]
    ·rw [mbM_put,←htk] at hS
     rw [if_pos (by have:=mt (wordM_nil _).2 ‹_›;omega),if_pos ‹_›,if_neg zo,←htk] at e
     (refine ih _ _ ⟨k+1,?_⟩ ?_;rotate_left;(focus ((simp only [push_cast,↓reduceIte,zq1,zq2,zq3,zq4,zq5,toN_i,h13,h12,h11,hu0,h4]<;>omega)));((repeat' apply aI)<;>first|exact dj|(simp only [push_cast,↓reduceIte,zq1,zq2,zq3,zq4,zq5,h13,h12,h11,hu0,h4]<;>omega)|skip))
   ·(have fct:=(a5 @h13 @h12 @h11 @hu0 @h4);repeat' (first|refine G.reg fun K hK=>?_|(refine kM ?_;clear hK K)|refine sA ?_|(refine zalc ?_;intro gb wb hS)|((with_reducible refine gSt ?_);refine zs2 ?_;intro wb hS)|(refine G.cn ?_ ?_<;>intro hc<;>try exact zxf)))<;>(try clear fct)
    (have fct:=(a5 @h13 @h12 @h11 @hu0 @h4);refine rM ?_)
    (refine ⟨?_,Sep.xt ‹_›⟩)
    rw [List.drop_eq_nil_of_le (by simp;omega),List.take_of_length_le (by simp;omega)] at e
    rw [e];simp [checkF]
theorem sqM_app (a:Str) (b:UInt8):sqM (a++[b])=sqM a++spB b:=by simp [sqM]
theorem spB_len (b:UInt8):(spB b).length≤2:=by unfold spB;split<;>(try split)<;>(try split)<;>simp
theorem sqM_len (s:Str):(sqM s).length≤2 * s.length:=by
 induction s with
 | nil=>simp [sqM]
 | cons b r ih=>rw [sqM_cons,List.length_append,List.length_cons];have:=spB_len b;omega
theorem takeB (l:Str) (k:Nat) (h:(k:Int) < l.length):l.take (k+1)=l.take k++[l.getD k 0]:=takeD l k h
theorem u8_of {b:UInt8} (c:UInt8) (h:(b.toNat:Int)=c.toNat):b=c:=UInt8.toNat_inj.1 zo
def c98l1:MC:=(Z (Z (yr [qm 5 4,qm 6 0,qq 7 (.lenS (Y 6)),qq 8 (yb .lss (Y 5) (Y 7))]) (yd (Y 8) yk (.exit 0))) (Z (.blk 1 (Z (yr [qm 11 0,qm 12 4,qq 13 (.idxS (Y 11) (Y 12))]) (.blk 2 (Z (yr [qq 19 (yb .eql (Y 13) (yc (.int .u8 92))),qm 18 19]) (yd (Y 18) (yr [qq 20 (yl 34 [(Y 3),(yc (S [92,92]))])]) (Z (yr [qq 22 (yb .eql (Y 13) (yc (.int .u8 10))),qm 21 22]) (yd (Y 21) (yr [qq 23 (yl 34 [(Y 3),(yc (S [92,110]))])]) (Z (yr [qq 25 (yb .eql (Y 13) (yc (.int .u8 13))),qm 24 25]) (yd (Y 24) (yr [qq 26 (yl 34 [(Y 3),(yc (S [92,114]))])]) (yr [qm 14 0,qm 15 4,qq 16 (.idxS (Y 14) (Y 15)),qq 17 (yl 35 [(Y 3),(Y 16)])])))))))))) (yr [qm 9 4,qq 10 (yb .add (Y 9) (ki 1)),qm 4 10])))
def c98:MC:=(.seq (.reg [qq 2 (.mv (.const (S [])))]) (.seq (.reg [qq 3 (.alc 67 [(.pointer none),(.slice none 0 0)])]) (.seq (.seq (.reg [qq 4 (.mv (ki 0))]) (.blk 0 (.loop c98l1))) (.seq (.reg [qq 27 (.call 36 [(.tmp 3)]),qm 2 27]) .ret))))
theorem spell_spec (s:Str) (w:World) (hl:s.length≤100000000000):Pu Tryz.prog 98 #[S s] w (S (sqM s)):=by
 refine En 28 c98 Tryz.func98 ?_
 have hS:=Sep.start w
 repeat' (first|refine G.reg fun K hK=>?_|(refine kM ?_;clear hK K)|refine sA ?_|(refine zalc ?_;intro gb wb hS)|(refine G.cn ?_ ?_<;>intro hc<;>try exact zxf))
 have hS:=hS.newB 5
 refine G.loop (fun r w'=>∃ k:Nat,k≤s.length∧r 4=I k∧r 3=.pointer (some ⟨gb,0,none⟩)∧r 0=S s∧Sep w w' [bldC gb 67 5 (sqM (s.take k))]) (fun r _=>s.length - toN (r 4)) ?_ ?_
 ·refine ⟨0,?_⟩
  ((repeat' apply aI)<;>first|exact dj|(simp only [push_cast,↓reduceIte,zq1,zq2,zq3,zq4,zq5]<;>omega)|skip)
 ·clear hS
  rintro u wl ⟨k,hk,h4,h3,h0,hS⟩ ih
  have hle:=sqM_len (s.take k)
  have hlt2:(s.take k).length≤k:=by rw [List.length_take];omega
  by_cases hlt:(k:Int) < s.length
  ·have htk:=takeB s k hlt
   (have fct:=(a3 @h4 @h3 @h0);repeat' (first|refine G.reg fun K hK=>?_|(refine kM ?_;clear hK K)|refine sA ?_|(refine zalc ?_;intro gb wb hS)|(refine zco 34 (bws_spec hS .h zo ze) ?_;rintro vb wb ⟨rfl,hS⟩)|(refine zco 35 (bwb_spec _ hS .h zo) ?_;rintro vb wb ⟨rfl,hS⟩)|(refine G.cn ?_ ?_<;>intro hc<;>try exact zxf)))<;>(try clear fct)
   all_goals
    have e:sqM (s.take (k+1))=sqM (s.take k)++spB (s.getD k 0):=by rw [htk,sqM_app]
    have n92:s.getD k 0=92→((s.getD k 0).toNat:Int)=92:=fun h=>by rw [h];rfl
    have n10:s.getD k 0=10→((s.getD k 0).toNat:Int)=10:=fun h=>by rw [h];rfl
    have n13:s.getD k 0=13→((s.getD k 0).toNat:Int)=13:=fun h=>by rw [h];rfl
    first
     | rw [u8_of 92 (show ((s.getD k 0).toNat:Int)=92 by assumption),spB_92] at e
     | rw [u8_of 10 (show ((s.getD k 0).toNat:Int)=10 by assumption),spB_10] at e
     | rw [u8_of 13 (show ((s.getD k 0).toNat:Int)=13 by assumption),spB_13] at e
     | rw [spB_o (fun h=>absurd (n92 h) ‹_›) (fun h=>absurd (n10 h) ‹_›) (fun h=>absurd (n13 h) ‹_›)] at e
    rw [←e] at hS
    (refine ih _ _ ⟨k+1,?_⟩ ?_;rotate_left;(focus ((simp only [push_cast,↓reduceIte,zq1,zq2,zq3,zq4,zq5,toN_i,h4,h3,h0]<;>omega)));((repeat' apply aI)<;>first|exact dj|(simp only [push_cast,↓reduceIte,zq1,zq2,zq3,zq4,zq5,h4,h3,h0]<;>omega)|skip))
  ·(have fct:=(a3 @h4 @h3 @h0);repeat' (first|refine G.reg fun K hK=>?_|(refine kM ?_;clear hK K)|refine sA ?_|(refine zalc ?_;intro gb wb hS)|(refine zco 36 (bst_spec hS .h) ?_;rintro vb wb ⟨rfl,hS⟩)|(refine G.cn ?_ ?_<;>intro hc<;>try exact zxf)))<;>(try clear fct)
   (have fct:=(a3 @h4 @h3 @h0);refine rM ?_)
   (refine ⟨?_,Sep.xt ‹_›⟩)
   rw [List.take_of_length_le zo]
theorem unM_bad {b:UInt8} (r:Str) (h:b=10∨b=13):unM (b :: r)=none:=by
 cases r<;>simp [unM,h]
theorem unM_pair (c:UInt8) (r:Str):unM (92 :: c :: r)=if c=92 then (unM r).map (92 :: ·) else if c=110 then (unM r).map (10 :: ·) else if c=114 then (unM r).map (13 :: ·) else none:=by
 simp [unM]
theorem unM_one:unM [92]=none:=by simp [unM]
theorem dropB (l:Str) (k:Nat) (h:(k:Int) < l.length):l.drop k=l.getD k 0 :: l.drop (k+1):=dropD l k h
theorem u8_ne {b:UInt8} {c:UInt8} {n:Int} (hn:(c.toNat:Int)=n) (h:¬ (b.toNat:Int)=n):¬ b=c:=fun e=>h (by rw [e];exact hn)
theorem u8_eq {b:UInt8} {c:UInt8} {n:Int} (hn:(c.toNat:Int)=n) (h:(b.toNat:Int)=n):b=c:=UInt8.toNat_inj.1 zo
theorem app_comp {α:Type} (a:List α) (b:α):((a++·) ∘ (b :: ·))=((a++[b])++·):=by funext x;simp
theorem bwb_c {g:Nat} {xs:Str} {L R:List Chk} {w w0:World} (n:Int) (c:UInt8) (hn:(c.toNat:Int)=n) (hS:Sep w0 w L) (he:Ex (bldC g 67 5 xs) L R) (hl:xs.length≤1000000000000) :
 Ret Tryz.prog 35 #[.pointer (some ⟨g,0,none⟩),.int .u8 n] w fun res w'=>res=.nilIface∧Sep w0 w' (bldC g 67 5 (xs++[c]) :: R):=by
 subst hn;exact bwb_spec c hS he hl
def c139l1:MC:=(Z (Z (yr [qm 6 5,qm 7 0,qq 8 (.lenS (Y 7)),qq 9 (yb .lss (Y 6) (Y 8))]) (yd (Y 9) yk (.exit 0))) (Z (.blk 1 (Z (Z (yr [qm 12 0,qm 13 5,qq 14 (.idxS (Y 12) (Y 13)),qq 15 (yb .eql (Y 14) (yc (.int .u8 10))),qm 16 15,qmf 16 17 0,qmf 16 18 5,qf 16 19 (.idxS (Y 17) (Y 18)),qf 16 20 (yb .eql (Y 19) (yc (.int .u8 13))),qq 21 (.pick (Y 16) (kb true) (Y 20))]) (yd (Y 21) (Z (yr [qq 2 (.mv (yc (S []))),qq 3 (.mv (kb false))]) .ret) yk)) (Z (Z (yr [qm 22 0,qm 23 5,qq 24 (.idxS (Y 22) (Y 23)),qq 25 (yb .neq (Y 24) (yc (.int .u8 92)))]) (yd (Y 25) (Z (yr [qm 26 0,qm 27 5,qq 28 (.idxS (Y 26) (Y 27)),qq 29 (yl 35 [(Y 4),(Y 28)])]) (.exit 1)) yk)) (Z (yr [qm 30 5,qq 31 (yb .add (Y 30) (ki 1)),qm 5 31]) (Z (Z (yr [qm 32 5,qm 33 0,qq 34 (.lenS (Y 33)),qq 35 (yb .eql (Y 32) (Y 34))]) (yd (Y 35) (Z (yr [qq 2 (.mv (yc (S []))),qq 3 (.mv (kb false))]) .ret) yk)) (Z (yr [qm 36 0,qm 37 5,qq 38 (.idxS (Y 36) (Y 37))]) (.blk 2 (Z (yr [qq 40 (yb .eql (Y 38) (yc (.int .u8 92))),qm 39 40]) (yd (Y 39) (yr [qq 41 (yl 35 [(Y 4),(yc (.int .u8 92))])]) (Z (yr [qq 43 (yb .eql (Y 38) (yc (.int .u8 110))),qm 42 43]) (yd (Y 42) (yr [qq 44 (yl 35 [(Y 4),(yc (.int .u8 10))])]) (Z (yr [qq 46 (yb .eql (Y 38) (yc (.int .u8 114))),qm 45 46]) (yd (Y 45) (yr [qq 47 (yl 35 [(Y 4),(yc (.int .u8 13))])]) (Z (yr [qq 2 (.mv (yc (S []))),qq 3 (.mv (kb false))]) .ret)))))))))))))) (yr [qm 10 5,qq 11 (yb .add (Y 10) (ki 1)),qm 5 11])))
def c139:MC:=(.seq (.reg [qq 2 (.mv (.const (S []))),qq 3 (.mv (kb false))]) (.seq (.reg [qq 4 (.alc 67 [(.pointer none),(.slice none 0 0)])]) (.seq (.seq (.reg [qq 5 (.mv (ki 0))]) (.blk 0 (.loop c139l1))) (.seq (.reg [qq 48 (.call 36 [(.tmp 4)]),qm 2 48,qq 3 (.mv (kb true))]) .ret))))
theorem unspell_spec (s:Str) (w:World) (hl:s.length≤100000000000):Pu Tryz.prog 139 #[S s] w (.tuple #[S ((unM s).getD []),.bool (unM s).isSome]):=by
 refine En 49 c139 Tryz.func139 ?_
 have hS:=Sep.start w
 repeat' (first|refine G.reg fun K hK=>?_|(refine kM ?_;clear hK K)|refine sA ?_|(refine brO_n ?_ ?_<;>intro hb hc<;>first|exact zxf|(simp only [hb];clear hb))|(refine zalc ?_;intro gb wb hS)|(refine G.cn ?_ ?_<;>intro hc<;>try exact zxf))
 have hS:=hS.newB 5
 refine G.loop (fun r w'=>∃ (k:Nat) (out:Str),k≤s.length∧out.length≤k∧r 5=I k∧r 4=.pointer (some ⟨gb,0,none⟩)∧r 0=S s∧unM s=(unM (s.drop k)).map (out++·)∧Sep w w' [bldC gb 67 5 out]) (fun r _=>s.length - toN (r 5)) ?_ ?_
 ·refine ⟨0,[],?_⟩
  ((repeat' apply aI)<;>first|exact dj|(simp only [push_cast,↓reduceIte,zq1,zq2,zq3,zq4,zq5]<;>omega)|skip)
  all_goals simp
 ·clear hS
  rintro u wl ⟨k,out,hk,ho,h5,h4,h0,e,hS⟩ ih
  by_cases hlt:(k:Int) < s.length
  ·rw [dropB s k hlt] at e
   have hd2:=dropB s (k+1)
   have ht:((k:Int)+1).toNat=k+1:=by omega
   (have fct:=(a4 @h5 @h4 @h0 @ht);repeat' (first|refine G.reg fun K hK=>?_|(refine kM ?_;clear hK K)|refine sA ?_|(refine brO_n ?_ ?_<;>intro hb hc<;>first|exact zxf|(simp only [hb];clear hb))|(refine zalc ?_;intro gb wb hS)|((with_reducible (show CallK _ 35 [_,Value.int _ 92] _ _ _ _));refine zco 35 (bwb_c 92 92 rfl hS .h zo) ?_;rintro vb wb ⟨rfl,hS⟩)|((with_reducible (show CallK _ 35 [_,Value.int _ 10] _ _ _ _));refine zco 35 (bwb_c 10 10 rfl hS .h zo) ?_;rintro vb wb ⟨rfl,hS⟩)|((with_reducible (show CallK _ 35 [_,Value.int _ 13] _ _ _ _));refine zco 35 (bwb_c 13 13 rfl hS .h zo) ?_;rintro vb wb ⟨rfl,hS⟩)|((with_reducible (show CallK _ 35 [_,Value.int _ (Nat.cast _)] _ _ _ _));refine zco 35 (bwb_spec (s.getD k 0) hS .h zo) ?_;rintro vb wb ⟨rfl,hS⟩)|(refine G.cn ?_ ?_<;>intro hc<;>try exact zxf)))<;>(try clear fct)
   all_goals first
    | (rw [unM_bad _ (.inl (u8_eq (n:=10) rfl ‹_›))] at e;(have fct:=(a4 @h5 @h4 @h0 @e);refine rM ?_);exact ⟨rfl,Sep.xt ‹_›⟩)
    | (rw [unM_bad _ (.inr (u8_eq (n:=13) rfl ‹_›))] at e;(have fct:=(a4 @h5 @h4 @h0 @e);refine rM ?_);exact ⟨rfl,Sep.xt ‹_›⟩)
    | (rw [unM_o _ (u8_ne (n:=92) rfl ‹_›) (u8_ne (n:=10) rfl ‹_›) (u8_ne (n:=13) rfl ‹_›),Option.map_map,app_comp] at e;(refine ih _ _ ⟨k+1,out++[s.getD k 0],?_⟩ ?_;rotate_left;(focus ((simp only [push_cast,↓reduceIte,zq1,zq2,zq3,zq4,zq5,toN_i,h5,h4,h0]<;>omega)));((repeat' apply aI)<;>first|exact dj|(simp only [push_cast,↓reduceIte,zq1,zq2,zq3,zq4,zq5,h5,h4,h0]<;>omega)|skip));done)
    | (rw [u8_eq (c:=92) (n:=92) rfl (show ((s.getD k 0).toNat:Int)=92 by assumption),List.drop_eq_nil_of_le (show s.length≤k+1 by omega),unM_one] at e;(have fct:=(a4 @h5 @h4 @h0 @e);refine rM ?_);exact ⟨rfl,Sep.xt ‹_›⟩)
    | skip
   all_goals rw [u8_eq (c:=92) (n:=92) rfl (show ((s.getD k 0).toNat:Int)=92 by assumption),hd2 (by push_cast;omega),unM_pair] at e
   ·rw [if_pos (u8_eq (n:=92) rfl ‹_›),Option.map_map,app_comp] at e
    (refine ih _ _ ⟨k+2,out++[92],?_⟩ ?_;rotate_left;(focus ((simp only [push_cast,↓reduceIte,zq1,zq2,zq3,zq4,zq5,toN_i,h5,h4,h0,ht]<;>omega)));((repeat' apply aI)<;>first|exact dj|(simp only [push_cast,↓reduceIte,zq1,zq2,zq3,zq4,zq5,h5,h4,h0,ht]<;>omega)|skip))
   ·rw [if_neg (u8_ne (n:=92) rfl ‹_›),if_pos (u8_eq (n:=110) rfl ‹_›),Option.map_map,app_comp] at e
    (refine ih _ _ ⟨k+2,out++[10],?_⟩ ?_;rotate_left;(focus ((simp only [push_cast,↓reduceIte,zq1,zq2,zq3,zq4,zq5,toN_i,h5,h4,h0,ht]<;>omega)));((repeat' apply aI)<;>first|exact dj|(simp only [push_cast,↓reduceIte,zq1,zq2,zq3,zq4,zq5,h5,h4,h0,ht]<;>omega)|skip))
   ·rw [if_neg (u8_ne (n:=92) rfl ‹_›),if_neg (u8_ne (n:=110) rfl ‹_›),if_pos (u8_eq (n:=114) rfl ‹_›),Option.map_map,app_comp] at e
    (refine ih _ _ ⟨k+2,out++[13],?_⟩ ?_;rotate_left;(focus ((simp only [push_cast,↓reduceIte,zq1,zq2,zq3,zq4,zq5,toN_i,h5,h4,h0,ht]<;>omega)));((repeat' apply aI)<;>first|exact dj|(simp only [push_cast,↓reduceIte,zq1,zq2,zq3,zq4,zq5,h5,h4,h0,ht]<;>omega)|skip))
   ·rw [if_neg (u8_ne (n:=92) rfl ‹_›),if_neg (u8_ne (n:=110) rfl ‹_›),if_neg (u8_ne (n:=114) rfl ‹_›)] at e
    (have fct:=(a4 @h5 @h4 @h0 @e);refine rM ?_)
    exact ⟨rfl,Sep.xt ‹_›⟩
  ·(have fct:=(a3 @h5 @h4 @h0);repeat' (first|refine G.reg fun K hK=>?_|(refine kM ?_;clear hK K)|refine sA ?_|(refine brO_n ?_ ?_<;>intro hb hc<;>first|exact zxf|(simp only [hb];clear hb))|(refine zalc ?_;intro gb wb hS)|(refine zco 36 (bst_spec hS .h) ?_;rintro vb wb ⟨rfl,hS⟩)|(refine G.cn ?_ ?_<;>intro hc<;>try exact zxf)))<;>(try clear fct)
   rw [List.drop_eq_nil_of_le zo] at e
   have e2:unM s=some out:=by rw [e];simp [unM]
   (have fct:=(a4 @h5 @h4 @h0 @e2);refine rM ?_)
   exact ⟨rfl,Sep.xt ‹_›⟩
def unL:Str→Option Str
 | []=>some []
 | b :: r=>if b=92 then (match r with
     | []=>none
     | c :: r'=>if c=92 then (unL r').map (92 :: ·) else if c=110 then (unL r').map (10 :: ·) else if c=114 then (unL r').map (13 :: ·) else none) else (unL r).map (b :: ·)
theorem unL_o {b:UInt8} (r:Str) (h1:¬ b=92):unL (b :: r)=(unL r).map (b :: ·):=by
 cases r<;>simp [unL,h1]
theorem unL_pair (c:UInt8) (r:Str):unL (92 :: c :: r)=if c=92 then (unL r).map (92 :: ·) else if c=110 then (unL r).map (10 :: ·) else if c=114 then (unL r).map (13 :: ·) else none:=by
 simp [unL]
theorem unL_one:unL [92]=none:=by simp [unL]
def c15l1:MC:=(Z (Z (yr [qm 5 4,qm 6 0,qq 7 (.lenS (Y 6)),qq 8 (yb .lss (Y 5) (Y 7))]) (yd (Y 8) yk (.exit 0))) (Z (.blk 1 (Z (yr [qm 11 0,qm 12 4,qq 13 (.idxS (Y 11) (Y 12))]) (.blk 2 (Z (yr [qq 19 (yb .eql (Y 13) (yc (.int .u8 92))),qm 18 19]) (yd (Y 18) (yr [qq 20 (yl 34 [(Y 3),(yc (S [92,92]))])]) (Z (yr [qq 22 (yb .eql (Y 13) (yc (.int .u8 10))),qm 21 22]) (yd (Y 21) (yr [qq 23 (yl 34 [(Y 3),(yc (S [92,110]))])]) (Z (yr [qq 25 (yb .eql (Y 13) (yc (.int .u8 13))),qm 24 25]) (yd (Y 24) (yr [qq 26 (yl 34 [(Y 3),(yc (S [92,114]))])]) (yr [qm 14 0,qm 15 4,qq 16 (.idxS (Y 14) (Y 15)),qq 17 (yl 35 [(Y 3),(Y 16)])])))))))))) (yr [qm 9 4,qq 10 (yb .add (Y 9) (ki 1)),qm 4 10])))
def c15:MC:=(.seq (.reg [qq 2 (.mv (.const (S [])))]) (.seq (.reg [qq 3 (.alc 67 [(.pointer none),(.slice none 0 0)])]) (.seq (.seq (.reg [qq 4 (.mv (ki 0))]) (.blk 0 (.loop c15l1))) (.seq (.reg [qq 27 (.call 36 [(.tmp 3)]),qm 2 27]) .ret))))
theorem spellL_spec (s:Str) (w:World) (hl:s.length≤100000000000):Pu Tryz.prog 15 #[S s] w (S (sqM s)):=by
 refine En 28 c15 Tryz.func15 ?_
 have hS:=Sep.start w
 repeat' (first|refine G.reg fun K hK=>?_|(refine kM ?_;clear hK K)|refine sA ?_|(refine zalc ?_;intro gb wb hS)|(refine G.cn ?_ ?_<;>intro hc<;>try exact zxf))
 have hS:=hS.newB 5
 refine G.loop (fun r w'=>∃ k:Nat,k≤s.length∧r 4=I k∧r 3=.pointer (some ⟨gb,0,none⟩)∧r 0=S s∧Sep w w' [bldC gb 67 5 (sqM (s.take k))]) (fun r _=>s.length - toN (r 4)) ?_ ?_
 ·refine ⟨0,?_⟩
  ((repeat' apply aI)<;>first|exact dj|(simp only [push_cast,↓reduceIte,zq1,zq2,zq3,zq4,zq5]<;>omega)|skip)
 ·clear hS
  rintro u wl ⟨k,hk,h4,h3,h0,hS⟩ ih
  have hle:=sqM_len (s.take k)
  have hlt2:(s.take k).length≤k:=by rw [List.length_take];omega
  by_cases hlt:(k:Int) < s.length
  ·have htk:=takeB s k hlt
   (have fct:=(a3 @h4 @h3 @h0);repeat' (first|refine G.reg fun K hK=>?_|(refine kM ?_;clear hK K)|refine sA ?_|(refine zalc ?_;intro gb wb hS)|(refine zco 34 (bws_spec hS .h zo ze) ?_;rintro vb wb ⟨rfl,hS⟩)|(refine zco 35 (bwb_spec _ hS .h zo) ?_;rintro vb wb ⟨rfl,hS⟩)|(refine G.cn ?_ ?_<;>intro hc<;>try exact zxf)))<;>(try clear fct)
   all_goals
    have e:sqM (s.take (k+1))=sqM (s.take k)++spB (s.getD k 0):=by rw [htk,sqM_app]
    have n92:s.getD k 0=92→((s.getD k 0).toNat:Int)=92:=fun h=>by rw [h];rfl
    have n10:s.getD k 0=10→((s.getD k 0).toNat:Int)=10:=fun h=>by rw [h];rfl
    have n13:s.getD k 0=13→((s.getD k 0).toNat:Int)=13:=fun h=>by rw [h];rfl
    first
     | rw [u8_of 92 (show ((s.getD k 0).toNat:Int)=92 by assumption),spB_92] at e
     | rw [u8_of 10 (show ((s.getD k 0).toNat:Int)=10 by assumption),spB_10] at e
     | rw [u8_of 13 (show ((s.getD k 0).toNat:Int)=13 by assumption),spB_13] at e
     | rw [spB_o (fun h=>absurd (n92 h) ‹_›) (fun h=>absurd (n10 h) ‹_›) (fun h=>absurd (n13 h) ‹_›)] at e
    rw [←e] at hS
    (refine ih _ _ ⟨k+1,?_⟩ ?_;rotate_left;(focus ((simp only [push_cast,↓reduceIte,zq1,zq2,zq3,zq4,zq5,toN_i,h4,h3,h0]<;>omega)));((repeat' apply aI)<;>first|exact dj|(simp only [push_cast,↓reduceIte,zq1,zq2,zq3,zq4,zq5,h4,h3,h0]<;>omega)|skip))
  ·(have fct:=(a3 @h4 @h3 @h0);repeat' (first|refine G.reg fun K hK=>?_|(refine kM ?_;clear hK K)|refine sA ?_|(refine zalc ?_;intro gb wb hS)|(refine zco 36 (bst_spec hS .h) ?_;rintro vb wb ⟨rfl,hS⟩)|(refine G.cn ?_ ?_<;>intro hc<;>try exact zxf)))<;>(try clear fct)
   (have fct:=(a3 @h4 @h3 @h0);refine rM ?_)
   (refine ⟨?_,Sep.xt ‹_›⟩)
   rw [List.take_of_length_le zo]
def c16l1:MC:=(Z (Z (yr [qm 6 5,qm 7 0,qq 8 (.lenS (Y 7)),qq 9 (yb .lss (Y 6) (Y 8))]) (yd (Y 9) yk (.exit 0))) (Z (.blk 1 (Z (Z (yr [qm 12 0,qm 13 5,qq 14 (.idxS (Y 12) (Y 13)),qq 15 (yb .neq (Y 14) (yc (.int .u8 92)))]) (yd (Y 15) (Z (yr [qm 16 0,qm 17 5,qq 18 (.idxS (Y 16) (Y 17)),qq 19 (yl 35 [(Y 4),(Y 18)])]) (.exit 1)) yk)) (Z (yr [qm 20 5,qq 21 (yb .add (Y 20) (ki 1)),qm 5 21]) (Z (Z (yr [qm 22 5,qm 23 0,qq 24 (.lenS (Y 23)),qq 25 (yb .eql (Y 22) (Y 24))]) (yd (Y 25) (Z (yr [qq 2 (.mv (yc (S []))),qq 3 (.mv (kb false))]) .ret) yk)) (Z (yr [qm 26 0,qm 27 5,qq 28 (.idxS (Y 26) (Y 27))]) (.blk 2 (Z (yr [qq 30 (yb .eql (Y 28) (yc (.int .u8 92))),qm 29 30]) (yd (Y 29) (yr [qq 31 (yl 35 [(Y 4),(yc (.int .u8 92))])]) (Z (yr [qq 33 (yb .eql (Y 28) (yc (.int .u8 110))),qm 32 33]) (yd (Y 32) (yr [qq 34 (yl 35 [(Y 4),(yc (.int .u8 10))])]) (Z (yr [qq 36 (yb .eql (Y 28) (yc (.int .u8 114))),qm 35 36]) (yd (Y 35) (yr [qq 37 (yl 35 [(Y 4),(yc (.int .u8 13))])]) (Z (yr [qq 2 (.mv (yc (S []))),qq 3 (.mv (kb false))]) .ret))))))))))))) (yr [qm 10 5,qq 11 (yb .add (Y 10) (ki 1)),qm 5 11])))
def c16:MC:=(.seq (.reg [qq 2 (.mv (.const (S []))),qq 3 (.mv (kb false))]) (.seq (.reg [qq 4 (.alc 67 [(.pointer none),(.slice none 0 0)])]) (.seq (.seq (.reg [qq 5 (.mv (ki 0))]) (.blk 0 (.loop c16l1))) (.seq (.reg [qq 38 (.call 36 [(.tmp 4)]),qm 2 38,qq 3 (.mv (kb true))]) .ret))))
theorem unspellL_spec (s:Str) (w:World) (hl:s.length≤100000000000):Pu Tryz.prog 16 #[S s] w (.tuple #[S ((unL s).getD []),.bool (unL s).isSome]):=by
 refine En 39 c16 Tryz.func16 ?_
 have hS:=Sep.start w
 repeat' (first|refine G.reg fun K hK=>?_|(refine kM ?_;clear hK K)|refine sA ?_|(refine zalc ?_;intro gb wb hS)|(refine G.cn ?_ ?_<;>intro hc<;>try exact zxf))
 have hS:=hS.newB 5
 refine G.loop (fun r w'=>∃ (k:Nat) (out:Str),k≤s.length∧out.length≤k∧r 5=I k∧r 4=.pointer (some ⟨gb,0,none⟩)∧r 0=S s∧unL s=(unL (s.drop k)).map (out++·)∧Sep w w' [bldC gb 67 5 out]) (fun r _=>s.length - toN (r 5)) ?_ ?_
 ·refine ⟨0,[],?_⟩
  ((repeat' apply aI)<;>first|exact dj|(simp only [push_cast,↓reduceIte,zq1,zq2,zq3,zq4,zq5]<;>omega)|skip)
  all_goals simp
 ·clear hS
  rintro u wl ⟨k,out,hk,ho,h5,h4,h0,e,hS⟩ ih
  by_cases hlt:(k:Int) < s.length
  ·rw [dropB s k hlt] at e
   have hd2:=dropB s (k+1)
   have ht:((k:Int)+1).toNat=k+1:=by omega
   (have fct:=(a4 @h5 @h4 @h0 @ht);repeat' (first|refine G.reg fun K hK=>?_|(refine kM ?_;clear hK K)|refine sA ?_|(refine zalc ?_;intro gb wb hS)|((with_reducible (show CallK _ 35 [_,Value.int _ 92] _ _ _ _));refine zco 35 (bwb_c 92 92 rfl hS .h zo) ?_;rintro vb wb ⟨rfl,hS⟩)|((with_reducible (show CallK _ 35 [_,Value.int _ 10] _ _ _ _));refine zco 35 (bwb_c 10 10 rfl hS .h zo) ?_;rintro vb wb ⟨rfl,hS⟩)|((with_reducible (show CallK _ 35 [_,Value.int _ 13] _ _ _ _));refine zco 35 (bwb_c 13 13 rfl hS .h zo) ?_;rintro vb wb ⟨rfl,hS⟩)|((with_reducible (show CallK _ 35 [_,Value.int _ (Nat.cast _)] _ _ _ _));refine zco 35 (bwb_spec (s.getD k 0) hS .h zo) ?_;rintro vb wb ⟨rfl,hS⟩)|(refine G.cn ?_ ?_<;>intro hc<;>try exact zxf)))<;>(try clear fct)
   all_goals first
    | (rw [unL_o _ (u8_ne (n:=92) rfl ‹_›),Option.map_map,app_comp] at e;(refine ih _ _ ⟨k+1,out++[s.getD k 0],?_⟩ ?_;rotate_left;(focus ((simp only [push_cast,↓reduceIte,zq1,zq2,zq3,zq4,zq5,toN_i,h5,h4,h0]<;>omega)));((repeat' apply aI)<;>first|exact dj|(simp only [push_cast,↓reduceIte,zq1,zq2,zq3,zq4,zq5,h5,h4,h0]<;>omega)|skip));done)
    | (rw [u8_eq (c:=92) (n:=92) rfl (show ((s.getD k 0).toNat:Int)=92 by assumption),List.drop_eq_nil_of_le (show s.length≤k+1 by omega),unL_one] at e;(have fct:=(a4 @h5 @h4 @h0 @e);refine rM ?_);exact ⟨rfl,Sep.xt ‹_›⟩)
    | skip
   all_goals rw [u8_eq (c:=92) (n:=92) rfl (show ((s.getD k 0).toNat:Int)=92 by assumption),hd2 (by push_cast;omega),unL_pair] at e
   ·rw [if_pos (u8_eq (n:=92) rfl ‹_›),Option.map_map,app_comp] at e
    (refine ih _ _ ⟨k+2,out++[92],?_⟩ ?_;rotate_left;(focus ((simp only [push_cast,↓reduceIte,zq1,zq2,zq3,zq4,zq5,toN_i,h5,h4,h0,ht]<;>omega)));((repeat' apply aI)<;>first|exact dj|(simp only [push_cast,↓reduceIte,zq1,zq2,zq3,zq4,zq5,h5,h4,h0,ht]<;>omega)|skip))
   ·rw [if_neg (u8_ne (n:=92) rfl ‹_›),if_pos (u8_eq (n:=110) rfl ‹_›),Option.map_map,app_comp] at e
    (refine ih _ _ ⟨k+2,out++[10],?_⟩ ?_;rotate_left;(focus ((simp only [push_cast,↓reduceIte,zq1,zq2,zq3,zq4,zq5,toN_i,h5,h4,h0,ht]<;>omega)));((repeat' apply aI)<;>first|exact dj|(simp only [push_cast,↓reduceIte,zq1,zq2,zq3,zq4,zq5,h5,h4,h0,ht]<;>omega)|skip))
   ·rw [if_neg (u8_ne (n:=92) rfl ‹_›),if_neg (u8_ne (n:=110) rfl ‹_›),if_pos (u8_eq (n:=114) rfl ‹_›),Option.map_map,app_comp] at e
    (refine ih _ _ ⟨k+2,out++[13],?_⟩ ?_;rotate_left;(focus ((simp only [push_cast,↓reduceIte,zq1,zq2,zq3,zq4,zq5,toN_i,h5,h4,h0,ht]<;>omega)));((repeat' apply aI)<;>first|exact dj|(simp only [push_cast,↓reduceIte,zq1,zq2,zq3,zq4,zq5,h5,h4,h0,ht]<;>omega)|skip))
   ·rw [if_neg (u8_ne (n:=92) rfl ‹_›),if_neg (u8_ne (n:=110) rfl ‹_›),if_neg (u8_ne (n:=114) rfl ‹_›)] at e
    (have fct:=(a4 @h5 @h4 @h0 @e);refine rM ?_)
    exact ⟨rfl,Sep.xt ‹_›⟩
  ·(have fct:=(a3 @h5 @h4 @h0);repeat' (first|refine G.reg fun K hK=>?_|(refine kM ?_;clear hK K)|refine sA ?_|(refine zalc ?_;intro gb wb hS)|(refine zco 36 (bst_spec hS .h) ?_;rintro vb wb ⟨rfl,hS⟩)|(refine G.cn ?_ ?_<;>intro hc<;>try exact zxf)))<;>(try clear fct)
   rw [List.drop_eq_nil_of_le zo] at e
   have e2:unL s=some out:=by rw [e];simp [unL]
   (have fct:=(a4 @h5 @h4 @h0 @e2);refine rM ?_)
   exact ⟨rfl,Sep.xt ‹_›⟩
theorem new_ok {v:Value} {names:List Str} {w:World} (hr:Rd w eS v names) (hl:names.length≤1000000000) (hl2:∀ s∈names,s.length≤100000000000) (hn:(newM names).2=0) :
 Ret Tryz.prog 180 #[v] w fun res w'=>∃ g sv r,res=.tuple #[.pointer (some ⟨g,0,none⟩),I names.length,I 0]∧Sep w w' [boxC g 262 [sv,.map (some r)],accC sv 9 eS names,mapC r I (mtM names)] :=
 (new_spec hr hl hl2).mono fun res w' h=>by
  rcases h with ⟨h,_⟩|⟨_,h⟩
  ·exact absurd hn h
  ·exact h
theorem new_bad {v:Value} {names:List Str} {w:World} (hr:Rd w eS v names) (hl:names.length≤1000000000) (hl2:∀ s∈names,s.length≤100000000000) (hn:(newM names).2≠0) :
 Pu Tryz.prog 180 #[v] w (.tuple #[.pointer none,I (newM names).1,I (newM names).2]) :=
 (new_spec hr hl hl2).mono fun res w' h=>by
  rcases h with ⟨_,h⟩|⟨h,_⟩
  ·exact h
  ·exact absurd h hn
theorem set_zeros (out:List Int) (k n:Nat) (a:Int) (h:out.length=k) (hk:k < n):(out++List.replicate (n - k) 0).set k a=(out++[a])++List.replicate (n - (k+1)) 0:=by
 subst h
 rw [List.set_append_right _ _ (Nat.le_refl _),Nat.sub_self]
 have:n - out.length=(n - (out.length+1))+1:=by omega
 rw [this,List.replicate_succ,List.set_cons_zero]
 simp
def c146l1:MC:=(Z (yr [qq 54 (yb .lss (Y 53) (Y 52))]) (Z (yd (Y 54) yk (.exit 0)) (Z (.blk 1 (Z (yr [qm 55 53,qq 56 (.adr 3 (Y 51) (Y 53)),qq 57 (.ld (.some 3) (Y 56)),qq 17 (.alc 121 [(S []),(.int .i64 0),(.bool false)]),qm 16 55,qn (.st 3 (Y 17) (Y 57))]) (Z (yr [qm 59 11,qq 60 (.fad 0 (Y 17)),qq 61 (.ld none (Y 60)),qq 62 (yl 181 [(Y 59),(Y 61)]),qm 58 62,qq 63 (.ext 0 (Y 58)),qq 64 (.ext 1 (Y 58)),qm 18 63,qm 19 64]) (Z (Z (yr [qm 65 19,qq 66 (.un .not (Y 65)),qm 67 66,qmf 67 68 2,qf 67 69 (yb .eql (Y 68) (ki 1)),qmf 67 70 69,qmt 70 71 18,qmt 70 72 16,qt 70 73 (yb .neq (Y 71) (Y 72)),qf 67 74 (.pick (Y 70) (Y 73) (kb false)),qq 75 (.pick (Y 67) (kb true) (Y 74))]) (yd (Y 75) (Z (yr [qm 76 16,qq 6 (.mv (yc (.slice none 0 0))),qm 7 76,qq 8 (.mv (ki 16))]) .ret) yk)) (Z (yr [qm 77 14,qm 78 16,qm 79 18,qq 80 (.adr 1 (Y 77) (Y 78)),qn (.st 1 (Y 80) (Y 79))]) (yr [qm 81 15,qq 82 (.fad 0 (Y 17)),qq 83 (.ld none (Y 82)),qn (.raw (.mapUpdate 149 (Y 81) (Y 83) (kb true)) 0)])))))) (yr [qq 84 (yb .add (Y 53) (ki 1)),qm 53 84]))))
def c146l2:MC:=(Z (yr [qq 90 (yb .lss (Y 89) (Y 88))]) (Z (yd (Y 90) yk (.exit 2)) (Z (.blk 3 (Z (yr [qm 91 89,qq 92 (.adr 1 (Y 87) (Y 89)),qq 93 (.ld none (Y 92)),qm 20 91,qm 21 93]) (Z (yr [qm 94 15,qm 95 21,qq 96 (.raw (.lookup 149 (Y 94) (Y 95) false) 4),qq 97 (.un .not (Y 96))]) (yd (Y 97) (Z (yr [qm 98 20,qq 6 (.mv (yc (.slice none 0 0))),qm 7 98,qq 8 (.mv (ki 10))]) .ret) yk)))) (yr [qq 99 (yb .add (Y 89) (ki 1)),qm 89 99]))))
def c146:MC:=(Z (yr [qq 6 (.mv (yc (.slice none 0 0))),qq 7 (.mv (ki 0)),qq 8 (.mv (ki 0))]) (Z (Z (yr [qm 22 2,qq 23 (yb .lss (Y 22) (ki 1)),qm 24 23,qmf 24 25 2,qf 24 26 (yb .gtr (Y 25) (ki 3)),qq 27 (.pick (Y 24) (kb true) (Y 26))]) (yd (Y 27) (Z (yr [qq 6 (.mv (yc (.slice none 0 0))),qq 7 (.mv (ki 0)),qq 8 (.mv (ki 22))]) .ret) yk)) (Z (Z (yr [qm 29 1,qq 30 (yl 96 [(Y 29)]),qm 28 30,qq 31 (.ext 0 (Y 28)),qq 32 (.ext 1 (Y 28)),qm 9 31,qm 10 32]) (Z (yr [qm 33 10,qq 34 (yb .neq (Y 33) (ki 0))]) (yd (Y 34) (Z (yr [qm 35 9,qm 36 10,qq 6 (.mv (yc (.slice none 0 0))),qm 7 35,qm 8 36]) .ret) yk))) (Z (yr [qm 38 0,qq 39 (yl 180 [(Y 38)]),qm 37 39,qq 40 (.ext 0 (Y 37)),qq 41 (.ext 1 (Y 37)),qq 42 (.ext 2 (Y 37)),qm 11 40,qm 12 41,qm 13 42]) (Z (Z (yr [qm 43 13,qq 44 (yb .neq (Y 43) (ki 0))]) (yd (Y 44) (Z (yr [qm 45 12,qm 46 13,qq 6 (.mv (yc (.slice none 0 0))),qm 7 45,qm 8 46]) .ret) yk)) (Z (yr [qm 47 1,qq 48 (.len (Y 47)),qq 49 (.raw (.makeSlice 168 (Y 48) (Y 48)) 168),qm 14 49]) (Z (yr [qq 50 (.raw (.makeMap 149 none) 149),qm 15 50]) (Z (Z (yr [qm 51 1,qq 52 (.len (Y 51)),qq 53 (.mv (ki 0))]) (.blk 0 (.loop c146l1))) (Z (Z (yr [qm 85 2,qq 86 (yb .neq (Y 85) (ki 3))]) (yd (Y 86) (Z (yr [qm 87 0,qq 88 (.len (Y 87)),qq 89 (.mv (ki 0))]) (.blk 2 (.loop c146l2))) yk)) (Z (yr [qm 100 14,qm 101 14,qq 102 (.len (Y 101)),qm 6 100,qm 7 102,qq 8 (.mv (ki 0))]) .ret))))))))))
set_option maxHeartbeats 1000000 in
theorem bindC_spec {v0 v1:Value} {names:List Str} {l:List Col} {mode:Int} {w:World} (h0:Rd w eS v0 names) (h1:Rd w eC v1 l) (hm:-9223372036854775808≤mode∧mode≤9223372036854775807) (hl:names.length≤1000000000) (hl1:l.length≤1000000000) (hn2:∀ s∈names,s.length≤100000000000) (hl2:∀ c∈l,c.name.length≤100000000000) :
 Ret Tryz.prog 146 #[v0,v1,I mode] w fun res w'=>∃ lv,res=.tuple #[lv,I (bindCM names (l.map nkC) mode).2.1,I (bindCM names (l.map nkC) mode).2.2]∧Sep w w' [accC lv 3 eI (bindCM names (l.map nkC) mode).1]:=by
 refine En 103 c146 Tryz.func146 ?_
 have hS:=Sep.start w
 have hbd:=h1.bd
 have nilR:∀ {wx:World} {L:List Chk},Sep w wx L→Sep w wx [accC (.slice none 0 0) 3 eI []]:=fun h=>(Sep.sub h Sub.n).nil _ _
 unfold bindCM
 by_cases hmo:mode < 1∨3 < mode
 ·rw [if_pos hmo]
  repeat' (first|refine G.reg fun K hK=>?_|(refine kM ?_;clear hK K)|refine sA ?_|(refine brO_n ?_ ?_<;>intro hb hc<;>first|exact zxf|(simp only [hb];clear hb))|(refine zalc ?_;intro gb wb hS)|((with_reducible refine gSt ?_);refine zs2 ?_;intro wb hS)|(refine G.cn ?_ ?_<;>intro hc<;>try exact zxf))
  all_goals
   refine rM ?_
   exact ⟨_,rfl,nilR hS⟩
 ·rw [if_neg hmo]
  by_cases hck:(checkM (l.map nkC)).2≠0
  ·rw [if_pos hck]
   repeat' (first|refine G.reg fun K hK=>?_|(refine kM ?_;clear hK K)|refine sA ?_|(refine brO_n ?_ ?_<;>intro hb hc<;>first|exact zxf|(simp only [hb];clear hb))|(refine zalc ?_;intro gb wb hS)|((with_reducible refine gSt ?_);refine zs2 ?_;intro wb hS)|(refine zcp 96 (check_spec (h1.ext hS.x) hl2) ?_;intro wb hS)|(refine G.cn ?_ ?_<;>intro hc<;>try exact zxf))
   all_goals
    refine rM ?_
    exact ⟨_,rfl,nilR hS⟩
  ·rw [if_neg hck]
   have hck':(checkM (l.map nkC)).2=0:=by omega
   by_cases hne:(newM names).2≠0
   ·rw [if_pos hne]
    repeat' (first|refine G.reg fun K hK=>?_|(refine kM ?_;clear hK K)|refine sA ?_|(refine brO_n ?_ ?_<;>intro hb hc<;>first|exact zxf|(simp only [hb];clear hb))|(refine zalc ?_;intro gb wb hS)|((with_reducible refine gSt ?_);refine zs2 ?_;intro wb hS)|(refine zcp 96 (check_spec (h1.ext hS.x) hl2) ?_;intro wb hS)|(refine zcp 180 (new_bad (h0.ext hS.x) hl hn2 hne) ?_;intro wb hS)|(refine G.cn ?_ ?_<;>intro hc<;>try exact zxf))
    all_goals
     refine rM ?_
     exact ⟨_,rfl,nilR hS⟩
   ·rw [if_neg hne]
    have hnm:(l.map nkC).map (·.1)=l.map (·.name):=by simp [nkC]
    rw [hnm]
    repeat' (first|refine G.reg fun K hK=>?_|(refine kM ?_;clear hK K)|refine sA ?_|(refine brO_n ?_ ?_<;>intro hb hc<;>first|exact zxf|(simp only [hb];clear hb))|(refine zalc ?_;intro gb wb hS)|((with_reducible refine gSt ?_);refine zs2 ?_;intro wb hS)|(refine zcp 96 (check_spec (h1.ext hS.x) hl2) ?_;intro wb hS)|(refine zco 180 (new_ok (h0.ext hS.x) hl hn2 zo) ?_;rintro vb wb ⟨g,sv,r,rfl,hS2⟩;have hS:=hS2.ap;simp only [apps] at hS)|(refine zmk eI 0 ?_;intro vb wb hS)|(refine zmm Value.bool ?_;intro gb wb hS)|(refine G.cn ?_ ?_<;>intro hc<;>try exact zxf))
    simp only [Int.toNat_natCast] at hS
    obtain ⟨pv,rfl⟩:∃ pv,pv=vb:=⟨_,rfl⟩
    rw [←mbM_nil] at hS
    refine G.loop (fun r' w'=>∃ (k:Nat) (out:List Int),k≤l.length∧out.length=k∧r' 53=I k∧r' 52=I l.length∧r' 51=v1∧r' 0=v0∧r' 2=I mode∧r' 11=.pointer (some ⟨g,0,none⟩)∧r' 14=pv∧r' 15=.map (some gb)∧bcF names mode (l.map (·.name)) []=bcF names mode ((l.map (·.name)).drop k) out ∧
     Sep w w' [mapC gb Value.bool (mbM ((l.map (·.name)).take k)),accC pv 3 eI (out++List.replicate (l.length - k) 0),boxC g 262 [sv,.map (some r)],accC sv 9 eS names,mapC r I (mtM names)]) (fun r' _=>l.length - toN (r' 53)) ?_ ?_
    ·refine ⟨0,[],?_⟩
     ((repeat' apply aI)<;>first|exact dj|(simp only [push_cast,↓reduceIte,zq1,zq2,zq3,zq4,zq5]<;>omega)|skip)
    ·clear hS
     rintro u wl ⟨k,out,hk,ho,g53,g52,g51,q0,q2,g11,g14,g15,e,hS⟩ ih
     by_cases hlt:(k:Int) < l.length
     ·have hnd:(l.map (·.name)).drop k=(l.getD k default).name :: (l.map (·.name)).drop (k+1):=mapD (·.name) l k hlt
      have htk:=mapT (·.name) l k hlt
      have hll:=mapL (·.name) l k hk
      have hsz:=set_zeros out k l.length (atM names (l.getD k default).name) ho zo
      rw [hnd,bcF_cons,ho] at e
      (have fct:=(a8 @g53 @g52 @g51 @q0 @q2 @g11 @g14 @g15);repeat' (first|refine G.reg fun K hK=>?_|(refine kM ?_;clear hK K)|refine sA ?_|(refine brO_n ?_ ?_<;>intro hb hc<;>first|exact zxf|(simp only [hb];clear hb))|(refine zalc ?_;intro gb wb hS)|((with_reducible refine gSt ?_);refine zs2 ?_;intro wb hS)|(refine zcp 181 (at_spec (Sep.blk hS zr) (Sep.mrd hS zr) _) ?_;intro wb hS)|(refine zse ?_;intro wb hS)|(refine zmu ?_;intro wb hS)|(refine G.cn ?_ ?_<;>intro hc<;>try exact zxf)))<;>(try clear fct)
      all_goals ((repeat' split at e)<;>(try (exfalso;omega)))
      all_goals first
       | ((have fct:=(a8 @g53 @g52 @g51 @q0 @q2 @g11 @g14 @g15);refine rM ?_);rw [e,if_pos ze];exact ⟨_,rfl,nilR hS⟩)
       | skip
      all_goals
       have hmx:max (atM names (l.getD k default).name) 0=atM names (l.getD k default).name:=Int.max_eq_left zo
       rw [mbM_put,←htk,hmx,Int.toNat_natCast,hsz] at hS
       (refine ih _ _ ⟨k+1,out++[atM names (l.getD k default).name],?_⟩ ?_;rotate_left;(focus ((simp only [push_cast,↓reduceIte,zq1,zq2,zq3,zq4,zq5,toN_i,g53,g52,g51,q0,q2,g11,g14,g15]<;>omega)));((repeat' apply aI)<;>first|exact dj|(simp only [push_cast,↓reduceIte,zq1,zq2,zq3,zq4,zq5,g53,g52,g51,q0,q2,g11,g14,g15]<;>omega)|skip))
     ·have hk2 : k=l.length:=by omega
      subst hk2
      rw [List.drop_eq_nil_of_le ze,bcF] at e
      rw [List.take_of_length_le ze,Nat.sub_self,List.replicate_zero,List.append_nil] at hS
      rw [e,if_neg ze]
      clear ih
      (have fct:=(a8 @g53 @g52 @g51 @q0 @q2 @g11 @g14 @g15);repeat' (first|refine G.reg fun K hK=>?_|(refine kM ?_;clear hK K)|refine sA ?_|(refine brO_n ?_ ?_<;>intro hb hc<;>first|exact zxf|(simp only [hb];clear hb))|(refine zalc ?_;intro gb wb hS)|((with_reducible refine gSt ?_);refine zs2 ?_;intro wb hS)|(refine G.cn ?_ ?_<;>intro hc<;>try exact zxf)))<;>(try clear fct)
      ·rw [if_pos zo]
       refine G.loop (fun r' w'=>∃ (j:Nat),j≤names.length∧r' 89=I j∧r' 88=I names.length∧r' 87=v0∧r' 14=pv∧r' 15=.map (some gb)∧lackF (l.map (·.name)) names 0=lackF (l.map (·.name)) (names.drop j) j ∧
        Sep w w' [mapC gb Value.bool (mbM (l.map (·.name))),accC pv 3 eI out]) (fun r' _=>names.length - toN (r' 89)) ?_ ?_
       ·refine ⟨0,?_⟩
        ((repeat' apply aI)<;>first|exact dj|(simp only [push_cast,↓reduceIte,zq1,zq2,zq3,zq4,zq5,g53,g52,g51,q0,q2,g11,g14,g15]<;>omega)|skip)
       ·clear hS g53 g52 g51 q0 q2 g11 g14 g15
        rintro u2 wl2 ⟨j,hj,g89,g88,g87,g14,g15,e2,hS⟩ ih
        have hnb:=h0.bd
        by_cases hjt:(j:Int) < names.length
        ·rw [dropD _ _ hjt,lackF_cons] at e2
         (have fct:=(a6 @g89 @g88 @g87 @g14 @g15 @mbM_get);repeat' (first|refine G.reg fun K hK=>?_|(refine kM ?_;clear hK K)|refine sA ?_|(refine brO_n ?_ ?_<;>intro hb hc<;>first|exact zxf|(simp only [hb];clear hb))|(refine zalc ?_;intro gb wb hS)|((with_reducible refine gSt ?_);refine zs2 ?_;intro wb hS)|(refine zlk ?_)|(refine G.cn ?_ ?_<;>intro hc<;>try exact zxf)))<;>(try clear fct)
         ·rw [if_pos zo] at e2
          rw [e2]
          (have fct:=(a5 @g89 @g88 @g87 @g14 @g15);refine rM ?_)
          exact ⟨_,rfl,nilR hS⟩
         ·rw [if_neg zo] at e2
          (refine ih _ _ ⟨j+1,?_⟩ ?_;rotate_left;(focus ((simp only [push_cast,↓reduceIte,zq1,zq2,zq3,zq4,zq5,toN_i,g89,g88,g87,g14,g15]<;>omega)));((repeat' apply aI)<;>first|exact dj|(simp only [push_cast,↓reduceIte,zq1,zq2,zq3,zq4,zq5,g89,g88,g87,g14,g15]<;>omega)|skip))
        ·rw [List.drop_eq_nil_of_le zo,lackF] at e2
         rw [e2]
         (have fct:=(a5 @g89 @g88 @g87 @g14 @g15);repeat' (first|refine G.reg fun K hK=>?_|(refine kM ?_;clear hK K)|refine sA ?_|(refine brO_n ?_ ?_<;>intro hb hc<;>first|exact zxf|(simp only [hb];clear hb))|(refine zalc ?_;intro gb wb hS)|((with_reducible refine gSt ?_);refine zs2 ?_;intro wb hS)|(refine G.cn ?_ ?_<;>intro hc<;>try exact zxf)))<;>(try clear fct)
         (have fct:=(a5 @g89 @g88 @g87 @g14 @g15);refine rM ?_)
         exact ⟨_,rfl,Sep.sub hS zr⟩
      ·rw [if_neg zo]
       (have fct:=(a8 @g53 @g52 @g51 @q0 @q2 @g11 @g14 @g15);refine rM ?_)
       exact ⟨_,rfl,Sep.sub hS zr⟩
def pickF (r:List Str):List Int→List Str→List Str×Int
 | [],out=>(out,0)
 | p :: l,out=>if (r.length:Int)≤p then ([],10) else pickF r l (out++[r.getD p.toNat default])
def pickM (r:List Str) (places:List Int):List Str×Int:=if places.any (fun p=>decide (p < 0))=true then ([],22) else pickF r places []
theorem any_step (l:List Int) (k:Nat) (h:(k:Int) < l.length) (h0:(l.take k).any (fun p=>decide (p < 0))=false) (hp:0≤l.getD k default):(l.take (k+1)).any (fun p=>decide (p < 0))=false:=by
 rw [takeD _ _ h,List.any_append,h0];simp;simpa using hp
theorem any_neg (l:List Int) (k:Nat) (h:(k:Int) < l.length) (hp:l.getD k default < 0):l.any (fun p=>decide (p < 0))=true:=List.any_eq_true.2 ⟨_,getD_mem l k h,by simpa using hp⟩
def c147l1:MC:=(Z (yr [qq 14 (yb .lss (Y 13) (Y 12))]) (Z (yd (Y 14) yk (.exit 0)) (Z (.blk 1 (Z (yr [qq 15 (.adr 1 (Y 11) (Y 13)),qq 16 (.ld none (Y 15)),qm 7 16]) (Z (yr [qm 17 7,qq 18 (yb .lss (Y 17) (ki 0))]) (yd (Y 18) (Z (yr [qq 4 (.mv (yc (.slice none 0 0))),qq 5 (.mv (ki 22))]) .ret) yk)))) (yr [qq 19 (yb .add (Y 13) (ki 1)),qm 13 19]))))
def c147l2:MC:=(Z (yr [qq 23 (yb .lss (Y 22) (Y 21))]) (Z (yd (Y 23) yk (.exit 2)) (Z (.blk 3 (Z (yr [qq 24 (.adr 1 (Y 20) (Y 22)),qq 25 (.ld none (Y 24)),qm 10 25]) (Z (Z (yr [qm 26 10,qm 27 0,qq 28 (.len (Y 27)),qq 29 (yb .geq (Y 26) (Y 28))]) (yd (Y 29) (Z (yr [qq 4 (.mv (yc (.slice none 0 0))),qq 5 (.mv (ki 10))]) .ret) yk)) (yr [qm 30 8,qm 31 0,qm 32 10,qq 33 (.adr 1 (Y 31) (Y 32)),qq 34 (.ld none (Y 33)),qq 35 (.bsl 9 [(S [])] 1 [⟨0,⟨1,(Y 34)⟩⟩]),qq 36 (.raw (.call ⟨(.builtin .append),#[(Y 30),(Y 35)],#[22,22]⟩) 22),qm 8 36])))) (yr [qq 37 (yb .add (Y 22) (ki 1)),qm 22 37]))))
def c147:MC:=(Z (yr [qq 4 (.mv (yc (.slice none 0 0))),qq 5 (.mv (ki 0))]) (Z (Z (yr [qm 11 1,qq 12 (.len (Y 11)),qq 13 (.mv (ki 0))]) (.blk 0 (.loop c147l1))) (Z (yr [qq 8 (.mv (yc (.slice none 0 0)))]) (Z (Z (yr [qm 20 1,qq 21 (.len (Y 20)),qq 22 (.mv (ki 0))]) (.blk 2 (.loop c147l2))) (Z (yr [qm 38 8,qm 4 38,qq 5 (.mv (ki 0))]) .ret)))))
theorem pick_spec {v0 v1:Value} {r:List Str} {places:List Int} {w:World} (h0:Rd w eS v0 r) (h1:Rd w eI v1 places) (hl:places.length≤1000000000) :
 Ret Tryz.prog 147 #[v0,v1] w fun res w'=>∃ lv,res=.tuple #[lv,I (pickM r places).2]∧Sep w w' [accC lv 9 eS (pickM r places).1]:=by
 refine En 39 c147 Tryz.func147 ?_
 have hS:=Sep.start w
 have hb0:=h0.bd
 have nilR:∀ {wx:World} {L:List Chk},Sep w wx L→Sep w wx [accC (.slice none 0 0) 9 eS []]:=fun h=>(Sep.sub h Sub.n).nil _ _
 repeat' (first|(refine gO ?_;intro K hK)|(refine kP ?_;clear hK K)|(refine hK _ _ ?_ ?_<;>clear hK K)|(intro wd hxd;have hS:=Sep.xx hxd)|refine sA ?_|(refine bM ?_ ?_<;>intro hb hc<;>first|exact zxf|(simp only [hb];clear hb))|((first|refine zalc ?_|refine zbsl ?_|((with_reducible refine gBox ?_);refine zbox ?_));intro gb wb hS)|((with_reducible refine gSt ?_);refine zs2 ?_;intro wb hS)|(refine zcv ?_)|(refine G.cn ?_ ?_<;>intro hc<;>try exact zxf))
 refine G.loop (fun r' w'=>∃ (k:Nat),k≤places.length∧r' 13=I k∧r' 12=I places.length∧r' 11=v1∧r' 0=v0∧r' 1=v1∧(places.take k).any (fun p=>decide (p < 0))=false∧Sep w w' []) (fun r' _=>places.length - toN (r' 13)) ?_ ?_
 ·refine ⟨0,?_⟩
  ((repeat' apply aI)<;>first|exact dj|(simp only [push_cast,↓reduceIte,zq1,zq2,zq3,zq4,zq5]<;>omega)|skip)
  all_goals rfl
 ·clear hS
  rintro u wl ⟨k,hk,h13,h12,h11,q0,q1,e,hS⟩ ih
  by_cases hlt:(k:Int) < places.length
  ·(have fct:=(a5 @h13 @h12 @h11 @q0 @q1);repeat' (first|(refine gO ?_;intro K hK)|(refine kP ?_;clear hK K)|(refine hK _ _ ?_ ?_<;>clear hK K)|(intro wd hxd;have hS:=Sep.xx hxd)|refine sA ?_|(refine bM ?_ ?_<;>intro hb hc<;>first|exact zxf|(simp only [hb];clear hb))|((first|refine zalc ?_|refine zbsl ?_|((with_reducible refine gBox ?_);refine zbox ?_));intro gb wb hS)|((with_reducible refine gSt ?_);refine zs2 ?_;intro wb hS)|(refine zcv ?_)|(refine G.cn ?_ ?_<;>intro hc<;>try exact zxf)))<;>(try clear fct)
   ·(have fct:=(a5 @h13 @h12 @h11 @q0 @q1);refine rM ?_)
    rw [pickM,if_pos (any_neg places k hlt zo)]
    exact ⟨_,rfl,nilR hS⟩
   ·(refine ih _ _ ⟨k+1,?_⟩ ?_;rotate_left;(focus ((simp only [push_cast,↓reduceIte,zq1,zq2,zq3,zq4,zq5,toN_i,h13,h12,h11,q0,q1]<;>omega)));((repeat' apply aI)<;>first|exact dj|(simp only [push_cast,↓reduceIte,zq1,zq2,zq3,zq4,zq5,h13,h12,h11,q0,q1]<;>omega)|skip))
    exact any_step places k hlt e zo
  ·rw [List.take_of_length_le zo] at e
   have hpm:pickM r places=pickF r places []:=by rw [pickM,e];rfl
   rw [hpm]
   clear ih
   (have fct:=(a5 @h13 @h12 @h11 @q0 @q1);repeat' (first|(refine gO ?_;intro K hK)|(refine kP ?_;clear hK K)|(refine hK _ _ ?_ ?_<;>clear hK K)|(intro wd hxd;have hS:=Sep.xx hxd)|refine sA ?_|(refine bM ?_ ?_<;>intro hb hc<;>first|exact zxf|(simp only [hb];clear hb))|((first|refine zalc ?_|refine zbsl ?_|((with_reducible refine gBox ?_);refine zbox ?_));intro gb wb hS)|((with_reducible refine gSt ?_);refine zs2 ?_;intro wb hS)|(refine zcv ?_)|(refine G.cn ?_ ?_<;>intro hc<;>try exact zxf)))<;>(try clear fct)
   have hS:=hS.nil 9 eS
   refine G.loop (fun r' w'=>∃ (j:Nat) (lv:Value) (out:List Str),j≤places.length∧out.length=j∧r' 22=I j∧r' 21=I places.length∧r' 20=v1∧r' 0=v0∧r' 8=lv∧pickF r places []=pickF r (places.drop j) out∧Sep w w' [accC lv 9 eS out]) (fun r' _=>places.length - toN (r' 22)) ?_ ?_
   ·refine ⟨0,.slice none 0 0,[],?_⟩
    ((repeat' apply aI)<;>first|exact dj|(simp only [push_cast,↓reduceIte,zq1,zq2,zq3,zq4,zq5,h13,h12,h11,q0,q1]<;>omega)|skip)
   ·clear hS h13 h12 h11 q0 q1
    rintro u2 wl2 ⟨j,lv,out,hj,ho,h22,h21,h20,q0,h8,e2,hS⟩ ih
    by_cases hjt:(j:Int) < places.length
    ·have hge:0≤places.getD j default:=by
      have:=List.any_eq_false.1 e _ (getD_mem places j hjt)
      simpa using this
     rw [dropD _ _ hjt,pickF] at e2
     (have fct:=(a5 @h22 @h21 @h20 @q0 @h8);repeat' (first|(refine gO ?_;intro K hK)|(refine kP ?_;clear hK K)|(refine hK _ _ ?_ ?_<;>clear hK K)|(intro wd hxd;have hS:=Sep.xx hxd)|refine sA ?_|(refine bM ?_ ?_<;>intro hb hc<;>first|exact zxf|(simp only [hb];clear hb))|((first|refine zalc ?_|refine zbsl ?_|((with_reducible refine gBox ?_);refine zbox ?_));intro gb wb hS)|((with_reducible refine gSt ?_);refine zs2 ?_;intro wb hS)|(refine zcv ?_)|(refine zap ?_;intro vb wb hS)|(refine G.cn ?_ ?_<;>intro hc<;>try exact zxf)))<;>(try clear fct)
     ·rw [if_pos zo] at e2
      rw [e2]
      (have fct:=(a5 @h22 @h21 @h20 @q0 @h8);refine rM ?_)
      exact ⟨_,rfl,nilR hS⟩
     ·rw [if_neg zo] at e2
      (refine ih _ _ ⟨j+1,vb,out++[r.getD (places.getD j default).toNat default],?_⟩ ?_;rotate_left;(focus ((simp only [push_cast,↓reduceIte,zq1,zq2,zq3,zq4,zq5,toN_i,h22,h21,h20,q0,h8]<;>omega)));((repeat' apply aI)<;>first|exact dj|(simp only [push_cast,↓reduceIte,zq1,zq2,zq3,zq4,zq5,h22,h21,h20,q0,h8]<;>omega)|skip))
    ·rw [List.drop_eq_nil_of_le zo,pickF] at e2
     rw [e2]
     (have fct:=(a5 @h22 @h21 @h20 @q0 @h8);repeat' (first|(refine gO ?_;intro K hK)|(refine kP ?_;clear hK K)|(refine hK _ _ ?_ ?_<;>clear hK K)|(intro wd hxd;have hS:=Sep.xx hxd)|refine sA ?_|(refine bM ?_ ?_<;>intro hb hc<;>first|exact zxf|(simp only [hb];clear hb))|((first|refine zalc ?_|refine zbsl ?_|((with_reducible refine gBox ?_);refine zbox ?_));intro gb wb hS)|((with_reducible refine gSt ?_);refine zs2 ?_;intro wb hS)|(refine zcv ?_)|(refine G.cn ?_ ?_<;>intro hc<;>try exact zxf)))<;>(try clear fct)
     (have fct:=(a5 @h22 @h21 @h20 @q0 @h8);refine rM ?_)
     exact ⟨_,rfl,hS⟩
def c17l1:MC:=(Z (Z (yr [qm 7 5,qm 8 0,qq 9 (.lenS (Y 8)),qq 10 (yb .lss (Y 7) (Y 9))]) (yd (Y 10) yk (.exit 0))) (Z (.blk 1 (Z (Z (yr [qm 13 0,qm 14 5,qq 15 (.idxS (Y 13) (Y 14)),qq 16 (yb .neq (Y 15) (yc (.int .u8 92)))]) (yd (Y 16) (Z (yr [qm 17 4,qm 18 0,qm 19 5,qq 20 (.idxS (Y 18) (Y 19)),qq 21 (.bsl 5 [(.int .u8 0)] 1 [⟨0,⟨1,(Y 20)⟩⟩]),qq 22 (.raw (.call ⟨(.builtin .append),#[(Y 17),(Y 21)],#[65,65]⟩) 65),qm 4 22]) (.exit 1)) yk)) (Z (yr [qm 23 5,qq 24 (yb .add (Y 23) (ki 1)),qm 5 24]) (Z (Z (yr [qm 25 5,qm 26 0,qq 27 (.lenS (Y 26)),qq 28 (yb .eql (Y 25) (Y 27)),qm 29 28,qmf 29 30 0,qmf 29 31 5,qf 29 32 (.idxS (Y 30) (Y 31)),qf 29 33 (yb .neq (Y 32) (yc (.int .u8 92))),qmf 29 34 33,qmt 34 35 0,qmt 34 36 5,qt 34 37 (.idxS (Y 35) (Y 36)),qt 34 38 (yb .neq (Y 37) (yc (.int .u8 110))),qf 29 39 (.pick (Y 34) (Y 38) (kb false)),qmf 29 40 39,qmt 40 41 0,qmt 40 42 5,qt 40 43 (.idxS (Y 41) (Y 42)),qt 40 44 (yb .neq (Y 43) (yc (.int .u8 114))),qf 29 45 (.pick (Y 40) (Y 44) (kb false)),qq 46 (.pick (Y 29) (kb true) (Y 45))]) (yd (Y 46) (Z (yr [qq 2 (.mv (yc (S []))),qq 3 (.mv (kb false))]) .ret) yk)) (Z (yr [qm 47 0,qm 48 5,qq 49 (.idxS (Y 47) (Y 48)),qm 6 49]) (Z (Z (yr [qm 50 6,qq 51 (yb .eql (Y 50) (yc (.int .u8 110)))]) (yd (Y 51) (yr [qq 6 (.mv (yc (.int .u8 10)))]) yk)) (Z (Z (yr [qm 52 6,qq 53 (yb .eql (Y 52) (yc (.int .u8 114)))]) (yd (Y 53) (yr [qq 6 (.mv (yc (.int .u8 13)))]) yk)) (yr [qm 54 4,qm 55 6,qq 56 (.bsl 5 [(.int .u8 0)] 1 [⟨0,⟨1,(Y 55)⟩⟩]),qq 57 (.raw (.call ⟨(.builtin .append),#[(Y 54),(Y 56)],#[65,65]⟩) 65),qm 4 57])))))))) (yr [qm 11 5,qq 12 (yb .add (Y 11) (ki 1)),qm 5 12])))
def c17:MC:=(.seq (.reg [qq 2 (.mv (.const (S []))),qq 3 (.mv (kb false))]) (.seq (.reg [qq 4 (.mv (.const (.slice none 0 0)))]) (.seq (.seq (.reg [qq 5 (.mv (ki 0))]) (.blk 0 (.loop c17l1))) (.seq (.reg [qm 58 4,qq 59 (.b2s (.tmp 58)),qm 2 59,qq 3 (.mv (kb true))]) .ret))))
set_option maxHeartbeats 1000000 in
theorem runspell_spec (s:Str) (w:World) (hl:s.length≤100000000000):Pu Tryz.prog 17 #[S s] w (.tuple #[S ((unL s).getD []),.bool (unL s).isSome]):=by
 refine En 60 c17 Tryz.func17 ?_
 have hS:=Sep.start w
 repeat' (first|refine G.reg fun K hK=>?_|(refine kM ?_;clear hK K)|refine sA ?_|(refine brO_n ?_ ?_<;>intro hb hc<;>first|exact zxf|(simp only [hb];clear hb))|(refine zbsl ?_;intro gb wb hS)|(refine G.cn ?_ ?_<;>intro hc<;>try exact zxf))
 all_goals
 have hS:=hS.nil 5 eU
 refine G.loop (fun r w'=>∃ (k:Nat) (out:Str) (lv:Value),k≤s.length∧out.length≤k∧r 5=I k∧r 4=lv∧r 0=S s∧unL s=(unL (s.drop k)).map (out++·)∧Sep w w' [accC lv 5 eU out]) (fun r _=>s.length - toN (r 5)) ?_ ?_
 ·exact ⟨0,[],.slice none 0 0,Nat.zero_le _,Nat.le_refl _,by exact sf,by exact sf,by exact sf,by simp,hS⟩
 ·clear hS
  rintro u wl ⟨k,out,lv,hk,ho,h5,h4,h0,e,hS⟩ ih
  have hm:toN (u 5)=k:=by rw [h5];simp [toN]
  by_cases hlt:(k:Int) < s.length
  ·rw [dropB s k hlt] at e
   have hd2:=dropB s (k+1)
   have ht:((k:Int)+1).toNat=k+1:=by omega
   generalize hbb:s.getD k 0=b at *
   by_cases hb:(b.toNat:Int)=92
   ·have hb2:b=92:=u8_eq (c:=92) (n:=92) rfl hb
    rw [hb2] at e
    by_cases hk1:(k:Int)+1 < s.length
    ·rw [hd2 (by push_cast;omega),unL_pair] at e
     generalize hcc:s.getD (k+1) 0=c at *
     by_cases c1:(c.toNat:Int)=92
     ·have hc2:=u8_eq (c:=92) (n:=92) rfl c1
      rw [if_pos hc2,Option.map_map,app_comp] at e
      (have fct:=(a8 @h5 @h4 @h0 @ht @hbb @hb @hcc @c1);repeat' (first|refine G.reg fun K hK=>?_|(refine kM ?_;clear hK K)|refine sA ?_|(refine brO_n ?_ ?_<;>intro hb hc<;>first|exact zxf|(simp only [hb];clear hb))|(refine zbsl ?_;intro gb wb hS)|(refine zap (y:=(92:UInt8)) ?_ (hy:=by rfl);intro vb wb hS)|(refine G.cn ?_ ?_<;>intro hc<;>try exact zxf)))<;>(try clear fct)
      all_goals
       have fct:=(a3 @h5 @h4 @h0);refine ih _ _ ⟨k+2,out++[92],vb,by omega,by (rw [List.length_append];simp only [List.length_cons,List.length_nil];omega),by simp only [push_cast,↓reduceIte,zq1,zq2,zq3,zq4,zq5,h5,h4,h0]<;>omega,by exact sf,by exact sf,e,hS⟩ ?_
       rw [hm];simp only [push_cast,↓reduceIte,zq1,zq2,zq3,zq4,zq5,toN_i,h5,h4,h0];omega
     have n1:=u8_ne (c:=92) (n:=92) rfl c1
     rw [if_neg n1] at e
     by_cases c1:(c.toNat:Int)=110
     ·have hc2:=u8_eq (c:=110) (n:=110) rfl c1
      rw [if_pos hc2,Option.map_map,app_comp] at e
      (have fct:=(a8 @h5 @h4 @h0 @ht @hbb @hb @hcc @c1);repeat' (first|refine G.reg fun K hK=>?_|(refine kM ?_;clear hK K)|refine sA ?_|(refine brO_n ?_ ?_<;>intro hb hc<;>first|exact zxf|(simp only [hb];clear hb))|(refine zbsl ?_;intro gb wb hS)|(refine zap (y:=(10:UInt8)) ?_ (hy:=by rfl);intro vb wb hS)|(refine G.cn ?_ ?_<;>intro hc<;>try exact zxf)))<;>(try clear fct)
      all_goals
       have fct:=(a3 @h5 @h4 @h0);refine ih _ _ ⟨k+2,out++[10],vb,by omega,by (rw [List.length_append];simp only [List.length_cons,List.length_nil];omega),by simp only [push_cast,↓reduceIte,zq1,zq2,zq3,zq4,zq5,h5,h4,h0]<;>omega,by exact sf,by exact sf,e,hS⟩ ?_
       rw [hm];simp only [push_cast,↓reduceIte,zq1,zq2,zq3,zq4,zq5,toN_i,h5,h4,h0];omega
     have n2:=u8_ne (c:=110) (n:=110) rfl c1
     rw [if_neg n2] at e
     by_cases c1:(c.toNat:Int)=114
     ·have hc2:=u8_eq (c:=114) (n:=114) rfl c1
      rw [if_pos hc2,Option.map_map,app_comp] at e
      (have fct:=(a8 @h5 @h4 @h0 @ht @hbb @hb @hcc @c1);repeat' (first|refine G.reg fun K hK=>?_|(refine kM ?_;clear hK K)|refine sA ?_|(refine brO_n ?_ ?_<;>intro hb hc<;>first|exact zxf|(simp only [hb];clear hb))|(refine zbsl ?_;intro gb wb hS)|(refine zap (y:=(13:UInt8)) ?_ (hy:=by rfl);intro vb wb hS)|(refine G.cn ?_ ?_<;>intro hc<;>try exact zxf)))<;>(try clear fct)
      all_goals
       have fct:=(a3 @h5 @h4 @h0);refine ih _ _ ⟨k+2,out++[13],vb,by omega,by (rw [List.length_append];simp only [List.length_cons,List.length_nil];omega),by simp only [push_cast,↓reduceIte,zq1,zq2,zq3,zq4,zq5,h5,h4,h0]<;>omega,by exact sf,by exact sf,e,hS⟩ ?_
       rw [hm];simp only [push_cast,↓reduceIte,zq1,zq2,zq3,zq4,zq5,toN_i,h5,h4,h0];omega
     have n3:=u8_ne (c:=114) (n:=114) rfl c1
     rw [if_neg n3] at e
     have e2:unL s=none:=by rw [e];rfl
     (have fct:=(a7 @h5 @h4 @h0 @ht @hbb @hb @hcc);repeat' (first|refine G.reg fun K hK=>?_|(refine kM ?_;clear hK K)|refine sA ?_|(refine brO_n ?_ ?_<;>intro hb hc<;>first|exact zxf|(simp only [hb];clear hb))|(refine zbsl ?_;intro gb wb hS)|(refine G.cn ?_ ?_<;>intro hc<;>try exact zxf)))<;>(try clear fct)
     all_goals
      (have fct:=(a4 @h5 @h4 @h0 @e2);refine rM ?_)
      (first|exact Sep.xt ‹_›|exact ⟨rfl,Sep.xt ‹_›⟩)
    ·rw [List.drop_eq_nil_of_le (show s.length≤k+1 by omega),unL_one] at e
     have e2:unL s=none:=by rw [e];rfl
     (have fct:=(a6 @h5 @h4 @h0 @ht @hbb @hb);repeat' (first|refine G.reg fun K hK=>?_|(refine kM ?_;clear hK K)|refine sA ?_|(refine brO_n ?_ ?_<;>intro hb hc<;>first|exact zxf|(simp only [hb];clear hb))|(refine zbsl ?_;intro gb wb hS)|(refine G.cn ?_ ?_<;>intro hc<;>try exact zxf)))<;>(try clear fct)
     all_goals
      (have fct:=(a4 @h5 @h4 @h0 @e2);refine rM ?_)
      (first|exact Sep.xt ‹_›|exact ⟨rfl,Sep.xt ‹_›⟩)
   ·rw [unL_o _ (u8_ne (n:=92) rfl hb),Option.map_map,app_comp] at e
    (have fct:=(a5 @h5 @h4 @h0 @hbb @hb);repeat' (first|refine G.reg fun K hK=>?_|(refine kM ?_;clear hK K)|refine sA ?_|(refine brO_n ?_ ?_<;>intro hb hc<;>first|exact zxf|(simp only [hb];clear hb))|(refine zbsl ?_;intro gb wb hS)|(refine zap (y:=b) ?_ (hy:=by rfl);intro vb wb hS)|(refine G.cn ?_ ?_<;>intro hc<;>try exact zxf)))<;>(try clear fct)
    all_goals
     have fct:=(a3 @h5 @h4 @h0);refine ih _ _ ⟨k+1,out++[b],vb,by omega,by (rw [List.length_append];simp only [List.length_cons,List.length_nil];omega),by simp only [push_cast,↓reduceIte,zq1,zq2,zq3,zq4,zq5,h5,h4,h0]<;>omega,by exact sf,by exact sf,e,hS⟩ ?_
     rw [hm];simp only [push_cast,↓reduceIte,zq1,zq2,zq3,zq4,zq5,toN_i,h5,h4,h0];omega
  ·rw [List.drop_eq_nil_of_le zo] at e
   have e2:unL s=some out:=by rw [e];simp [unL]
   (have fct:=(a3 @h5 @h4 @h0);repeat' (first|refine G.reg fun K hK=>?_|(refine kM ?_;clear hK K)|refine sA ?_|(refine brO_n ?_ ?_<;>intro hb hc<;>first|exact zxf|(simp only [hb];clear hb))|(refine zbsl ?_;intro gb wb hS)|(refine G.cn ?_ ?_<;>intro hc<;>try exact zxf)))<;>(try clear fct)
   all_goals
    (have fct:=(a4 @h5 @h4 @h0 @e2);refine rM ?_)
    (first|exact Sep.xt ‹_›|exact ⟨rfl,Sep.xt ‹_›⟩)
end Go.Proofs.YtllanbmpacgigaaGreatDoor
