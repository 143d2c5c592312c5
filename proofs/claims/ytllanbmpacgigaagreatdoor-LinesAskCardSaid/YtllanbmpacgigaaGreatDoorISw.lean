/- Texts of the proof, joined. -/
import Derived.Test.YtllanbmpacgigaaGreatDoorIP06
import Derived.Test.YtllanbmpacgigaaGreatDoorIP15
import Derived.Test.YtllanbmpacgigaaGreatDoorIR02
namespace Go.Proofs.YtllanbmpacgigaaGreatDoor
open Operand renaming tmp→Y,const→yc
open MC renaming seq→Z,reg→yr,skip→yk,cond→yd
open MO renaming call→yl,bin→yb
open Nat renaming reduceAdd→zq1,reduceLeDiff→zq2,reduceEqDiff→zq3,reduceLT→zq4
open Int renaming reduceToNat→zq5
set_option linter.unusedSimpArgs false
set_option linter.unusedVariables false
attribute [local irreducible] SemK UnitK StK AlcK BslK CallK CallV Instr.box Builtin.append_ Instr.makeSlice Instr.makeMap Instr.lookup Instr.mapUpdate Instr.sliceAt convert
open Go.RowKit
theorem G.d0 {P:Program} {fn:Func} {n:Nat} {ρ:Fr} {w:World} {R:Value→World→Prop} (h:R (.tuple #[]) w) (hf:fn.results=#[]:=by rfl):G P fn n [] R ρ w:=G.done0 hf h
structure Gs where
 d:Dl
 sc:Int
instance : Inhabited Gs := ⟨⟨⟨0, 0, 0⟩, 0⟩⟩
def eG:Enc Gs:=⟨4,fun g=>[U g.d.dl,U g.d.q,I g.d.e,I g.sc],fun _=>rfl⟩
instance : EncSz eG 4 := ⟨rfl⟩
theorem eG_3 (g:Gs):(eG.f g).getD 3 undef=I g.sc:=rfl
theorem eG_one (g:Gs):∀ u∈eG.f g,One u:=by simp [eG,one_i]
theorem eG_l (g:Gs):(eG.f g).length=4:=rfl
def ixD (d:Dl):Nat:=(if d.dl=44 then 0 else if d.dl=59 then 6 else if d.dl=9 then 12 else 18)+(if d.q=34 then 0 else 3)+(d.e - 1).toNat
abbrev gsc (g:Gs):Int:=g.sc
abbrev gix (g:Gs):Nat:=ixD g.d
def BdG (xs:List Gs):Prop:=xs.length≤1000000∧∀ g∈xs,0≤g.sc∧g.sc≤4000000000000
theorem BdG.of {xs:List Gs} (h1:xs.length≤1000000) (h:∀ g∈xs,0≤g.sc∧g.sc≤4000000000000):BdG xs:=⟨h1,h⟩
theorem BdG.perm {xs ys:List Gs} (h:BdG xs) (hp:ys.Perm xs):BdG ys:=⟨by rw [hp.length_eq];exact h.1,fun g hg=>h.2 g (hp.mem_iff.1 hg)⟩
theorem BdG.at {xs:List Gs} (h:BdG xs) {k:Nat} (hk:k < xs.length):0≤(xs.getD k default).sc∧(xs.getD k default).sc≤4000000000000:=h.2 _ (getD_mem xs k zo)
def c190:MC:=(Z (yr [qq 2 (.raw (.box 179 (Y 0)) 0),qq 3 (.raw (.box 179 (Y 1)) 0),qq 4 (.mv (ki 0))]) (Z (yr [qq 5 (.fad 3 (Y 3)),qq 6 (.ld none (Y 5)),qq 7 (.fad 3 (Y 2)),qq 8 (.ld none (Y 7)),qq 9 (yb .sub (Y 6) (Y 8)),qm 4 9]) .ret))
theorem gcmp_spec (a b:Gs) (w:World) (ha:0≤a.sc∧a.sc≤4000000000000) (hb:0≤b.sc∧b.sc≤4000000000000):Pu Tryz.prog 190 #[.agg (eG.f a).toArray,.agg (eG.f b).toArray] w (I (b.sc - a.sc)):=by
 refine En 10 c190 Tryz.func190 ?_
 have hS:=Sep.start w
 have l1:=eG_l a
 have l2:=eG_l b
 (have fct:=@eG_3;repeat' (first|refine G.reg fun K hK=>?_|(refine kM ?_;clear hK K)|refine sA ?_|(((with_reducible refine gBox ?_);refine zbox ?_);intro gb wb hS)))<;>(try clear fct)
 refine rM ?_
 exact Sep.xt ‹_›
section
variable {v:Value} {w w0:World} {M:List Chk} {xs:List Gs}
def c211l1:MC:=(Z (Z (yr [qm 11 10,qm 12 3,qq 13 (yb .lss (Y 11) (Y 12))]) (yd (Y 13) yk (.exit 0))) (Z (.blk 1 (.drg [qm 16 0,qm 17 1,qm 18 10,qq 19 (yb .add (Y 17) (Y 18)),qm 20 0,qm 21 2,qm 22 10,qq 23 (yb .add (Y 21) (Y 22)),qm 24 0,qm 25 2,qm 26 10,qq 27 (yb .add (Y 25) (Y 26)),qq 28 (.adr 4 (Y 24) (Y 27)),qq 29 (.ld (.some 4) (Y 28)),qm 30 0,qm 31 1,qm 32 10,qq 33 (yb .add (Y 31) (Y 32)),qq 34 (.adr 4 (Y 30) (Y 33)),qq 35 (.ld (.some 4) (Y 34)),qq 36 (.adr 4 (Y 16) (Y 19)),qn (.st 4 (Y 36) (Y 29)),qq 37 (.adr 4 (Y 20) (Y 23)),qn (.st 4 (Y 37) (Y 35))] (.some (.br [qm 16 0,qm 17 1,qm 18 10,qq 19 (yb .add (Y 17) (Y 18)),qm 20 0,qm 21 2,qm 22 10,qq 23 (yb .add (Y 21) (Y 22)),qm 24 0,qm 25 2,qm 26 10,qq 27 (yb .add (Y 25) (Y 26)),qq 28 (.adr 4 (Y 24) (Y 27)),qm 30 0,qm 31 1,qm 32 10,qq 33 (yb .add (Y 31) (Y 32)),qq 34 (.adr 4 (Y 30) (Y 33))] (.leaf [qq 29 (.ld (.some 4) (Y 28)),qq 35 (.ld (.some 4) (Y 34)),qq 36 (.adr 4 (Y 16) (Y 19)),qn (.st 4 (Y 36) (Y 29)),qq 37 (.adr 4 (Y 20) (Y 23)),qn (.st 4 (Y 37) (Y 35))]) (.leaf [qq 35 (.ld (.some 4) (Y 34)),qq 29 (.ld (.some 4) (Y 28)),qq 36 (.adr 4 (Y 16) (Y 19)),qn (.st 4 (Y 36) (Y 29)),qq 37 (.adr 4 (Y 20) (Y 23)),qn (.st 4 (Y 37) (Y 35))]))))) (yr [qm 14 10,qq 15 (yb .add (Y 14) (ki 1)),qm 10 15])))
def c211:MC:=(.seq (.reg [qq 10 (.mv (ki 0))]) (.blk 0 (.loop c211l1)))
theorem swr_spec (hS:Sep w0 w (accC v 179 eG xs :: M)) (hB:BdG xs) (a b n:Nat) (hab:a+n≤b) (hb:b+n≤xs.length) :
 Ret Tryz.prog 211 #[v,I a,I b,I n,(.func (.func 190) #[] #[])] w fun res w'=>res=.tuple #[]∧∃ ys,ys.Perm xs∧AtS xs ys (rangeSw a b n)∧Sep w0 w' (accC v 179 eG ys :: M):=by
 refine En 38 c211 Tryz.func211 ?_
 have hB1:=hB.1
 repeat' (first|(refine gO ?_;intro K hK)|(refine kP ?_;clear hK K)|(refine hK _ _ ?_ ?_<;>clear hK K)|(intro wd hxd;have hS:=Sep.xx hxd)|refine sA ?_|((with_reducible refine gSt ?_);refine zs2 ?_;intro wb hS)|(refine G.cn ?_ ?_<;>intro hc<;>try exact zxf))
 refine G.loop (fun r w'=>∃ (i:Nat) (cur:List Gs),i≤n∧cur.Perm xs∧AtS xs cur (rangeSw a b i)∧r 0=v∧r 1=I a∧r 2=I b∧r 3=I n∧r 10=I i∧Sep w0 w' (accC v 179 eG cur :: M)) (fun r _=>n - toN (r 10)) ?_ ?_
 ·exact ⟨0,xs,Nat.zero_le _,.refl _,fun k=>by rw [range_zero],by exact sf,by exact sf,by exact sf,by exact sf,by exact sf,hS⟩
 ·clear hS
  rintro u wl ⟨i,cur,hi,hp,ha,q0,q1,q2,q3,q10,hS⟩ ih
  have hm:toN (u 10)=i:=by rw [q10];simp [toN]
  have hcl:=hp.length_eq
  by_cases hlt:(i:Int) < n
  ·obtain ⟨p,ep⟩:∃ p,p=a+i:=⟨_,rfl⟩
   obtain ⟨q,eq⟩:∃ q,q=b+i:=⟨_,rfl⟩
   have fp:(a:Int)+(i:Int)=(p:Int):=by omega
   have fq:(b:Int)+(i:Int)=(q:Int):=by omega
   (have fct:=(a7 @q0 @q1 @q2 @q3 @q10 @fp @fq);repeat' (first|(refine gO ?_;intro K hK)|(refine kP ?_;clear hK K)|(refine hK _ _ ?_ ?_<;>clear hK K)|(intro wd hxd;have hS:=Sep.xx hxd)|refine sA ?_|((with_reducible refine gSt ?_);refine zs2 ?_;intro wb hS)|(refine zse ?_ (h1:=eG_one _);intro wb hS)|(refine G.cn ?_ ?_<;>intro hc<;>try exact zxf)))<;>(try clear fct)
   all_goals
    have fct:=(a5 @q0 @q1 @q2 @q3 @q10);refine ih _ _ ⟨i+1,swapL cur p q,by omega,(swapL_perm cur p q zo zo).trans hp,by rw [ep,eq];exact range_step (n:=n) ha zo hab hcl zo,by exact sf,by exact sf,by exact sf,by exact sf,by exact sf,hS⟩ ?_
    rw [hm];simp only [push_cast,↓reduceIte,zq1,zq2,zq3,zq4,zq5,toN_i,q0,q1,q2,q3,q10];omega
  ·(have fct:=(a5 @q0 @q1 @q2 @q3 @q10);repeat' (first|(refine gO ?_;intro K hK)|(refine kP ?_;clear hK K)|(refine hK _ _ ?_ ?_<;>clear hK K)|(intro wd hxd;have hS:=Sep.xx hxd)|refine sA ?_|((with_reducible refine gSt ?_);refine zs2 ?_;intro wb hS)|(refine G.cn ?_ ?_<;>intro hc<;>try exact zxf)))<;>(try clear fct)
   (have fct:=(a5 @q0 @q1 @q2 @q3 @q10);refine rM ?_)
   have e:i=n:=by omega
   subst e
   exact ⟨cur,hp,ha,hS⟩
def c210l1:MC:=(Z (Z (yr [qm 18 10,qm 19 11,qq 20 (yb .neq (Y 18) (Y 19))]) (yd (Y 20) yk (.exit 0))) (.blk 1 (Z (yr [qm 21 10,qm 22 11,qq 23 (yb .gtr (Y 21) (Y 22))]) (yd (Y 23) (Z (yr [qm 24 0,qm 25 2,qm 26 10,qq 27 (yb .sub (Y 25) (Y 26)),qm 28 2,qm 29 11,qm 30 4,qq 31 (yl 211 [(Y 24),(Y 27),(Y 28),(Y 29),(Y 30)])]) (yr [qm 32 10,qm 33 11,qq 34 (yb .sub (Y 32) (Y 33)),qm 10 34])) (Z (yr [qm 35 0,qm 36 2,qm 37 10,qq 38 (yb .sub (Y 36) (Y 37)),qm 39 2,qm 40 11,qq 41 (yb .add (Y 39) (Y 40)),qm 42 10,qq 43 (yb .sub (Y 41) (Y 42)),qm 44 10,qm 45 4,qq 46 (yl 211 [(Y 35),(Y 38),(Y 43),(Y 44),(Y 45)])]) (yr [qm 47 11,qm 48 10,qq 49 (yb .sub (Y 47) (Y 48)),qm 11 49]))))))
def c210:MC:=(Z (yr [qm 12 2,qm 13 1,qq 14 (yb .sub (Y 12) (Y 13)),qm 10 14]) (Z (yr [qm 15 3,qm 16 2,qq 17 (yb .sub (Y 15) (Y 16)),qm 11 17]) (Z (.blk 0 (.loop c210l1)) (yr [qm 50 0,qm 51 2,qm 52 10,qq 53 (yb .sub (Y 51) (Y 52)),qm 54 2,qm 55 10,qm 56 4,qq 57 (yl 211 [(Y 50),(Y 53),(Y 54),(Y 55),(Y 56)])]))))
set_option maxHeartbeats 1000000 in
theorem rot_spec (hS:Sep w0 w (accC v 179 eG xs :: M)) (hB:BdG xs) (a m b:Nat) (ham:a < m) (hmb:m < b) (hb:b≤xs.length) :
 Ret Tryz.prog 210 #[v,I a,I m,I b,(.func (.func 190) #[] #[])] w fun res w'=>res=.tuple #[]∧∃ ys,ys.Perm xs∧AtS xs ys (rotSw a m b)∧Sep w0 w' (accC v 179 eG ys :: M):=by
 refine En 58 c210 Tryz.func210 ?_
 have hB1:=hB.1
 obtain ⟨i0,ei⟩:∃ i0,i0=m - a:=⟨_,rfl⟩
 obtain ⟨j0,ej⟩:∃ j0,j0=b - m:=⟨_,rfl⟩
 have fi:(m:Int) - (a:Int)=(i0:Int):=by omega
 have fj:(b:Int) - (m:Int)=(j0:Int):=by omega
 obtain ⟨T,hT⟩:∃ T:List Gs,T=(List.range xs.length).map fun k=>xs.getD (rotSw a m b k) default:=⟨_,rfl⟩
 have hTl:T.length=xs.length:=by rw [hT];simp
 have hTa:AtS xs T (rotSw a m b):=by
  intro k
  rw [hT]
  by_cases hk:k < xs.length
  ·simp [List.getD_eq_getElem?_getD,hk]
  ·rw [List.getD_eq_getElem?_getD,List.getElem?_eq_none (by simpa using hk),rot_out zo zo zo,List.getD_eq_getElem?_getD,List.getElem?_eq_none zo]
 clear hT
 (have fct:=(aI @fi @fj);repeat' (first|refine G.reg fun K hK=>?_|(refine kM ?_;clear hK K)|refine sA ?_|(refine G.cn ?_ ?_<;>intro hc<;>try exact zxf)))<;>(try clear fct)
 refine G.loop (fun r w'=>∃ (i j:Nat) (cur:List Gs),0 < i∧0 < j∧i≤m∧m+j≤xs.length∧cur.Perm xs∧AtS cur T (rotSw (m - i) m (m+j))∧r 0=v∧r 2=I m∧r 4=(.func (.func 190) #[] #[])∧r 10=I i∧r 11=I j∧Sep w0 w' (accC v 179 eG cur :: M)) (fun r _=>toN (r 10)+toN (r 11)) ?_ ?_
 ·exact ⟨i0,j0,xs,by omega,by omega,by omega,by omega,.refl _,by rw [show m - i0=a from by omega,show m+j0=b from by omega];exact hTa,by simp only [push_cast,↓reduceIte,zq1,zq2,zq3,zq4,zq5],by simp only [push_cast,↓reduceIte,zq1,zq2,zq3,zq4,zq5],by simp only [push_cast,↓reduceIte,zq1,zq2,zq3,zq4,zq5],by simp only [push_cast,↓reduceIte,zq1,zq2,zq3,zq4,zq5,fi],by simp only [push_cast,↓reduceIte,zq1,zq2,zq3,zq4,zq5,fj],hS⟩
 ·clear hS
  rintro u wl ⟨i,j,cur,hi,hj,him,hmj,hp,hat,q0,q2,q4,q10,q11,hS⟩ ih
  have hm1:toN (u 10)=i:=by rw [q10];simp [toN]
  have hm2:toN (u 11)=j:=by rw [q11];simp [toN]
  have hcl:=hp.length_eq
  have hBc:=hB.perm hp
  obtain ⟨p,ep⟩:∃ p,p=m - i:=⟨_,rfl⟩
  have fp:(m:Int) - (i:Int)=(p:Int):=by omega
  by_cases hne:(i:Int)=j
  ·have e:i=j:=by omega
   subst e
   have hcc:∀ {w},Sep w0 w (accC v 179 eG cur :: M)→_:=fun {w} h=>swr_spec (w:=w) h hBc p m i zo zo
   (have fct:=(a6 @q0 @q2 @q4 @q10 @q11 @fp);repeat' (first|refine G.reg fun K hK=>?_|(refine kM ?_;clear hK K)|refine sA ?_|(refine zco 211 (hcc hS) ?_;rintro vb wb ⟨rfl,ys,hy,hya,hS⟩)|(refine G.cn ?_ ?_<;>intro hc<;>try exact zxf)))<;>(try clear fct)
   (have fct:=(a5 @q0 @q2 @q4 @q10 @q11);refine rM ?_)
   refine ⟨ys,hy.trans hp,?_,hS⟩
   have:=rot_last (by rw [←ep];rw [←ep] at hat;exact hat) (by rw [←ep];exact hya) him
   intro k
   rw [←this k];exact hTa k
  ·by_cases hgt:(j:Int) < i
   ·have hcc:∀ {w},Sep w0 w (accC v 179 eG cur :: M)→_:=fun {w} h=>swr_spec (w:=w) h hBc p m j zo zo
    obtain ⟨i',ei'⟩:∃ i',i'=i - j:=⟨_,rfl⟩
    have fi':(i:Int) - (j:Int)=(i':Int):=by omega
    (have fct:=(a7 @q0 @q2 @q4 @q10 @q11 @fp @fi');repeat' (first|refine G.reg fun K hK=>?_|(refine kM ?_;clear hK K)|refine sA ?_|(refine zco 211 (hcc hS) ?_;rintro vb wb ⟨rfl,ys,hy,hya,hS⟩)|(refine G.cn ?_ ?_<;>intro hc<;>try exact zxf)))<;>(try clear fct)
    all_goals
     have fct:=(a6 @q0 @q2 @q4 @q10 @q11 @fi');refine ih _ _ ⟨i',j,ys,by omega,by omega,by omega,by omega,hy.trans hp,by rw [ei'];exact rot_big hat (by rw [←ep];exact hya) zo him,by exact sf,by exact sf,by exact sf,by exact sf,by exact sf,hS⟩ ?_
     rw [hm1,hm2];simp only [push_cast,↓reduceIte,zq1,zq2,zq3,zq4,zq5,toN_i,q0,q2,q4,q10,q11,fi'];omega
   ·obtain ⟨q,eq⟩:∃ q,q=m+j - i:=⟨_,rfl⟩
    have fq:(m:Int)+(j:Int) - (i:Int)=(q:Int):=by omega
    have hcc:∀ {w},Sep w0 w (accC v 179 eG cur :: M)→_:=fun {w} h=>swr_spec (w:=w) h hBc p q i zo zo
    obtain ⟨j',ej'⟩:∃ j',j'=j - i:=⟨_,rfl⟩
    have fj':(j:Int) - (i:Int)=(j':Int):=by omega
    (have fct:=(a8 @q0 @q2 @q4 @q10 @q11 @fp @fq @fj');repeat' (first|refine G.reg fun K hK=>?_|(refine kM ?_;clear hK K)|refine sA ?_|(refine zco 211 (hcc hS) ?_;rintro vb wb ⟨rfl,ys,hy,hya,hS⟩)|(refine G.cn ?_ ?_<;>intro hc<;>try exact zxf)))<;>(try clear fct)
    all_goals
     have fct:=(a6 @q0 @q2 @q4 @q10 @q11 @fj');refine ih _ _ ⟨i,j',ys,by omega,by omega,by omega,by omega,hy.trans hp,by rw [ej'];exact rot_small hat (by rw [←ep,←eq];exact hya) zo him,by exact sf,by exact sf,by exact sf,by exact sf,by exact sf,hS⟩ ?_
     rw [hm1,hm2];simp only [push_cast,↓reduceIte,zq1,zq2,zq3,zq4,zq5,toN_i,q0,q2,q4,q10,q11,fj'];omega
end
section
variable {v:Value} {w w0:World} {M:List Chk} {xs:List Gs}
def c208l1:MC:=(Z (Z (.drg [qm 18 9,qm 19 1,qq 20 (yb .gtr (Y 18) (Y 19)),qm 21 20,qmt 21 22 3,qmt 21 23 0,qmt 21 24 9,qt 21 25 (.adr 4 (Y 23) (Y 24)),qt 21 26 (.ld (.some 4) (Y 25)),qmt 21 27 0,qmt 21 28 9,qt 21 29 (yb .sub (Y 28) (ki 1)),qt 21 30 (.adr 4 (Y 27) (Y 29)),qt 21 31 (.ld (.some 4) (Y 30)),qt 21 32 (.raw (.call ⟨(.value (Y 22)),#[(Y 26),(Y 31)],#[179,179]⟩) 3),qt 21 33 (yb .lss (Y 32) (ki 0)),qq 34 (.pick (Y 21) (Y 33) (kb false))] (.some (.br [qm 18 9,qm 19 1,qq 20 (yb .gtr (Y 18) (Y 19)),qm 21 20,qmt 21 22 3,qmt 21 23 0,qmt 21 24 9,qt 21 25 (.adr 4 (Y 23) (Y 24)),qmt 21 27 0,qmt 21 28 9,qt 21 29 (yb .sub (Y 28) (ki 1)),qt 21 30 (.adr 4 (Y 27) (Y 29))] (.leaf [qt 21 26 (.ld (.some 4) (Y 25)),qt 21 31 (.ld (.some 4) (Y 30)),qt 21 32 (.raw (.call ⟨(.value (Y 22)),#[(Y 26),(Y 31)],#[179,179]⟩) 3),qt 21 33 (yb .lss (Y 32) (ki 0)),qq 34 (.pick (Y 21) (Y 33) (kb false))]) (.leaf [qt 21 31 (.ld (.some 4) (Y 30)),qt 21 26 (.ld (.some 4) (Y 25)),qt 21 32 (.raw (.call ⟨(.value (Y 22)),#[(Y 26),(Y 31)],#[179,179]⟩) 3),qt 21 33 (yb .lss (Y 32) (ki 0)),qq 34 (.pick (Y 21) (Y 33) (kb false))])))) (yd (Y 34) yk (.exit 2))) (Z (.blk 3 (.drg [qm 37 0,qm 38 9,qm 39 0,qm 40 9,qq 41 (yb .sub (Y 40) (ki 1)),qm 42 0,qm 43 9,qq 44 (yb .sub (Y 43) (ki 1)),qq 45 (.adr 4 (Y 42) (Y 44)),qq 46 (.ld (.some 4) (Y 45)),qm 47 0,qm 48 9,qq 49 (.adr 4 (Y 47) (Y 48)),qq 50 (.ld (.some 4) (Y 49)),qq 51 (.adr 4 (Y 37) (Y 38)),qn (.st 4 (Y 51) (Y 46)),qq 52 (.adr 4 (Y 39) (Y 41)),qn (.st 4 (Y 52) (Y 50))] (.some (.br [qm 37 0,qm 38 9,qm 39 0,qm 40 9,qq 41 (yb .sub (Y 40) (ki 1)),qm 42 0,qm 43 9,qq 44 (yb .sub (Y 43) (ki 1)),qq 45 (.adr 4 (Y 42) (Y 44)),qm 47 0,qm 48 9,qq 49 (.adr 4 (Y 47) (Y 48))] (.leaf [qq 46 (.ld (.some 4) (Y 45)),qq 50 (.ld (.some 4) (Y 49)),qq 51 (.adr 4 (Y 37) (Y 38)),qn (.st 4 (Y 51) (Y 46)),qq 52 (.adr 4 (Y 39) (Y 41)),qn (.st 4 (Y 52) (Y 50))]) (.leaf [qq 50 (.ld (.some 4) (Y 49)),qq 46 (.ld (.some 4) (Y 45)),qq 51 (.adr 4 (Y 37) (Y 38)),qn (.st 4 (Y 51) (Y 46)),qq 52 (.adr 4 (Y 39) (Y 41)),qn (.st 4 (Y 52) (Y 50))]))))) (yr [qm 35 9,qq 36 (yb .sub (Y 35) (ki 1)),qm 9 36])))
def c208l2:MC:=(Z (Z (yr [qm 12 8,qm 13 2,qq 14 (yb .lss (Y 12) (Y 13))]) (yd (Y 14) yk (.exit 0))) (Z (.blk 1 (Z (yr [qm 17 8,qm 9 17]) (.blk 2 (.loop c208l1)))) (yr [qm 15 8,qq 16 (yb .add (Y 15) (ki 1)),qm 8 16])))
def c208:MC:=(.seq (.reg [qm 10 1,qq 11 (.bin .add (.tmp 10) (ki 1)),qm 8 11]) (.blk 0 (.loop c208l2)))
set_option maxHeartbeats 1000000 in
theorem ins_spec (hS:Sep w0 w (accC v 179 eG xs :: M)) (hB:BdG xs) (a b:Nat) (ha:a≤xs.length) (hb:b≤xs.length) (hix:∀ i j,a≤i→i < j→j < b→gix (xs.getD i default) < gix (xs.getD j default)) :
 Ret Tryz.prog 208 #[v,I a,I b,(.func (.func 190) #[] #[])] w fun res w'=>res=.tuple #[]∧∃ ys,MgPost gsc gix a b xs ys∧Sep w0 w' (accC v 179 eG ys :: M):=by
 refine En 53 c208 Tryz.func208 ?_
 have hB1:=hB.1
 by_cases hab:b≤a
 ·repeat' (first|(refine gO ?_;intro K hK)|(refine kP ?_;clear hK K)|(refine hK _ _ ?_ ?_<;>clear hK K)|(intro wd hxd;have hS:=Sep.xx hxd)|refine sA ?_|(refine bM ?_ ?_<;>intro hb hc<;>first|exact zxf|(simp only [hb];clear hb))|((with_reducible refine gSt ?_);refine zs2 ?_;intro wb hS)|(refine zcv ?_)|(refine G.cn ?_ ?_<;>intro hc<;>try exact zxf))
  refine G.loop (fun r w'=>r 0=v∧r 2=I b∧r 8=I ((a:Int)+1)∧Sep w0 w' (accC v 179 eG xs :: M)) (fun r _=>0) ?_ ?_
  ·exact ⟨by exact sf,by exact sf,by exact sf,hS⟩
  ·clear hS
   rintro u wl ⟨q0,q2,q8,hS⟩ ih
   (have fct:=(a3 @q0 @q2 @q8);repeat' (first|(refine gO ?_;intro K hK)|(refine kP ?_;clear hK K)|(refine hK _ _ ?_ ?_<;>clear hK K)|(intro wd hxd;have hS:=Sep.xx hxd)|refine sA ?_|(refine bM ?_ ?_<;>intro hb hc<;>first|exact zxf|(simp only [hb];clear hb))|((with_reducible refine gSt ?_);refine zs2 ?_;intro wb hS)|(refine zcv ?_)|(refine G.cn ?_ ?_<;>intro hc<;>try exact zxf)))<;>(try clear fct)
   (have fct:=(a3 @q0 @q2 @q8);refine rM ?_)
   exact ⟨xs,⟨Kept.refl _ _ _,fun i j h1 h2 h3=>by omega⟩,hS⟩
 ·repeat' (first|(refine gO ?_;intro K hK)|(refine kP ?_;clear hK K)|(refine hK _ _ ?_ ?_<;>clear hK K)|(intro wd hxd;have hS:=Sep.xx hxd)|refine sA ?_|(refine bM ?_ ?_<;>intro hb hc<;>first|exact zxf|(simp only [hb];clear hb))|((with_reducible refine gSt ?_);refine zs2 ?_;intro wb hS)|(refine zcv ?_)|(refine G.cn ?_ ?_<;>intro hc<;>try exact zxf))
  refine G.loop (fun r w'=>∃ (i:Nat) (cur:List Gs),a+1≤i∧i≤b∧Kept a i xs cur∧Ord (Bef gsc gix) a i cur∧r 0=v∧r 1=I a∧r 2=I b∧r 3=(.func (.func 190) #[] #[])∧r 8=I i∧Sep w0 w' (accC v 179 eG cur :: M)) (fun r _=>b - toN (r 8)) ?_ ?_
  ·exact ⟨a+1,xs,by omega,by omega,Kept.refl _ _ _,fun i j h1 h2 h3=>by omega,by exact sf,by exact sf,by exact sf,by exact sf,by exact sf,hS⟩
  ·clear hS
   rintro u wl ⟨i,cur,hai,hib,hk,ho,q0,q1,q2,q3,q8,hS⟩ ih
   have hm:toN (u 8)=i:=by rw [q8];simp [toN]
   have hcl:=hk.len
   by_cases hlt:(i:Int) < b
   ·(have fct:=(a5 @q0 @q1 @q2 @q3 @q8);repeat' (first|(refine gO ?_;intro K hK)|(refine kP ?_;clear hK K)|(refine hK _ _ ?_ ?_<;>clear hK K)|(intro wd hxd;have hS:=Sep.xx hxd)|refine sA ?_|(refine bM ?_ ?_<;>intro hb hc<;>first|exact zxf|(simp only [hb];clear hb))|((with_reducible refine gSt ?_);refine zs2 ?_;intro wb hS)|(refine zcv ?_)|(refine G.cn ?_ ?_<;>intro hc<;>try exact zxf)))<;>(try clear fct)
    refine G.loop (fun r w'=>∃ (j:Nat) (cu:List Gs),a≤j∧j≤i∧cu.Perm cur∧AtS cur cu (mvDn i j)∧(j=i∨Bef gsc gix (cur.getD i default) (cur.getD j default))∧r 0=v∧r 1=I a∧r 2=I b∧r 3=(.func (.func 190) #[] #[])∧r 8=I i∧r 9=I j∧Sep w0 w' (accC v 179 eG cu :: M)) (fun r _=>toN (r 9)) ?_ ?_
    ·have fct:=(a5 @q0 @q1 @q2 @q3 @q8);exact ⟨i,cur,by omega,Nat.le_refl _,.refl _,fun k=>by rw [mvDn_self],.inl rfl,by exact sf,by exact sf,by exact sf,by exact sf,by exact sf,by exact sf,hS⟩
    ·clear hS q0 q1 q2 q3 q8
     rintro u2 wl2 ⟨j,cu,haj,hji,hp,hat,hbj,q0,q1,q2,q3,q8,q9,hS⟩ ih2
     have hm2:toN (u2 9)=j:=by rw [q9];simp [toN]
     have hul:=hp.length_eq
     have hBc:=hB.perm (hp.trans hk.perm)
     have out:(j=a∨Bef gsc gix (cur.getD (j - 1) default) (cur.getD i default))→Kept a (i+1) xs cu∧Ord (Bef gsc gix) a (i+1) cu:=fun h3 =>
      ⟨(hk.wide (Nat.le_refl _) (Nat.le_succ _)).trans (Kept.of_at hp hat fun k hk=>by unfold mvDn;rw [if_neg zo];split<;>omega),dn_ord ho hat haj hji h3 hbj⟩
     by_cases hgt:(a:Int) < j
     ·obtain ⟨p,ep⟩:∃ p,p=j - 1:=⟨_,rfl⟩
      have fp:(j:Int) - 1=(p:Int):=by omega
      have ey:cu.getD j default=cur.getD i default:=by rw [hat j];congr 1;unfold mvDn;rw [if_neg zo,if_pos rfl]
      have ex:cu.getD p default=cur.getD p default:=by rw [hat p];congr 1;unfold mvDn;rw [if_neg zo,if_neg zo]
      have hcm:∀ w,_:=fun w=>gcmp_spec (cu.getD j default) (cu.getD p default) w (hBc.at zo) (hBc.at zo)
      by_cases hlt2:(cu.getD p default).sc - (cu.getD j default).sc < 0
      ·(have fct:=(a7 @q0 @q1 @q2 @q3 @q8 @q9 @fp);repeat' (first|(refine gO ?_;intro K hK)|(refine kP ?_;clear hK K)|(refine hK _ _ ?_ ?_<;>clear hK K)|(intro wd hxd;have hS:=Sep.xx hxd)|refine sA ?_|(refine bM ?_ ?_<;>intro hb hc<;>first|exact zxf|(simp only [hb];clear hb))|((with_reducible refine gSt ?_);refine zs2 ?_;intro wb hS)|(refine zcv ?_)|(refine zcp 190 (hcm _) ?_;intro wb hS)|(refine zse ?_ (h1:=eG_one _);intro wb hS)|(refine G.cn ?_ ?_<;>intro hc<;>try exact zxf)))<;>(try clear fct)
       all_goals
        have ej:j=p+1:=by omega
        have fct:=(a7 @q0 @q1 @q2 @q3 @q8 @q9 @fp);refine ih2 _ _ ⟨p,swapL cu j p,by omega,by omega,(swapL_perm cu j p zo zo).trans hp,by rw [ej] at hat ⊢;exact dn_step hat zo zo,.inr (by rw [←ey,←ex];exact bef_lt (by show (cu.getD p default).sc < (cu.getD j default).sc;omega)),by exact sf,by exact sf,by exact sf,by exact sf,by exact sf,by exact sf,hS⟩ ?_
        rw [hm2];simp only [push_cast,↓reduceIte,zq1,zq2,zq3,zq4,zq5,toN_i,q0,q1,q2,q3,q8,q9,fp];omega
      ·obtain ⟨k1,k2⟩:=out (.inr (by
        rw [show j - 1=p from by omega,←ey,←ex]
        refine bef_ge (by show ¬ (cu.getD p default).sc < (cu.getD j default).sc;omega) ?_
        rw [ey,ex]
        obtain ⟨k',hk',e1⟩:=hk.src zo zo p zo
        rw [e1,hk.out i (.inr (Nat.le_refl _))]
        exact hix k' i hk'.1 hk'.2 zo))
       (have fct:=(a7 @q0 @q1 @q2 @q3 @q8 @q9 @fp);repeat' (first|(refine gO ?_;intro K hK)|(refine kP ?_;clear hK K)|(refine hK _ _ ?_ ?_<;>clear hK K)|(intro wd hxd;have hS:=Sep.xx hxd)|refine sA ?_|(refine bM ?_ ?_<;>intro hb hc<;>first|exact zxf|(simp only [hb];clear hb))|((with_reducible refine gSt ?_);refine zs2 ?_;intro wb hS)|(refine zcv ?_)|(refine zcp 190 (hcm _) ?_;intro wb hS)|(refine G.cn ?_ ?_<;>intro hc<;>try exact zxf)))<;>(try clear fct)
       all_goals
        have fct:=(a6 @q0 @q1 @q2 @q3 @q8 @q9);refine ih _ _ ⟨i+1,cu,by omega,by omega,k1,k2,by exact sf,by exact sf,by exact sf,by exact sf,by exact sf,hS⟩ ?_
        rw [hm];simp only [push_cast,↓reduceIte,zq1,zq2,zq3,zq4,zq5,toN_i,q0,q1,q2,q3,q8,q9];omega
     ·obtain ⟨k1,k2⟩:=out (.inl zo)
      (have fct:=(a6 @q0 @q1 @q2 @q3 @q8 @q9);repeat' (first|(refine gO ?_;intro K hK)|(refine kP ?_;clear hK K)|(refine hK _ _ ?_ ?_<;>clear hK K)|(intro wd hxd;have hS:=Sep.xx hxd)|refine sA ?_|(refine bM ?_ ?_<;>intro hb hc<;>first|exact zxf|(simp only [hb];clear hb))|((with_reducible refine gSt ?_);refine zs2 ?_;intro wb hS)|(refine zcv ?_)|(refine G.cn ?_ ?_<;>intro hc<;>try exact zxf)))<;>(try clear fct)
      all_goals
       have fct:=(a6 @q0 @q1 @q2 @q3 @q8 @q9);refine ih _ _ ⟨i+1,cu,by omega,by omega,k1,k2,by exact sf,by exact sf,by exact sf,by exact sf,by exact sf,hS⟩ ?_
       rw [hm];simp only [push_cast,↓reduceIte,zq1,zq2,zq3,zq4,zq5,toN_i,q0,q1,q2,q3,q8,q9];omega
   ·have e:i=b:=by omega
    subst e
    (have fct:=(a5 @q0 @q1 @q2 @q3 @q8);repeat' (first|(refine gO ?_;intro K hK)|(refine kP ?_;clear hK K)|(refine hK _ _ ?_ ?_<;>clear hK K)|(intro wd hxd;have hS:=Sep.xx hxd)|refine sA ?_|(refine bM ?_ ?_<;>intro hb hc<;>first|exact zxf|(simp only [hb];clear hb))|((with_reducible refine gSt ?_);refine zs2 ?_;intro wb hS)|(refine zcv ?_)|(refine G.cn ?_ ?_<;>intro hc<;>try exact zxf)))<;>(try clear fct)
    (have fct:=(a5 @q0 @q1 @q2 @q3 @q8);refine rM ?_)
    exact ⟨cur,⟨hk,ho⟩,hS⟩
theorem shU {t:TypeId} {x y:Operand} {a:Int} {d:Option Nat} {ρ:Fr} {next:Fr→World→Prop} (h:0≤a):SemK Tryz.prog (do eqGuard .shr t x y (.int .u64 a) (.int .u64 1);binOp .shr t (.int .u64 a) (.int .u64 1)) w d ρ next=next (updO ρ d (.int .u64 (a / 2))) w:=by
 have e:a.fdiv (2 ^ 1)=a / 2:=by rw [Int.fdiv_eq_ediv_of_nonneg _ zd];rfl
 refine semK_val ?_
 have h1:(binOp .shr t (.int .u64 a) (.int .u64 1))=pure (.int .u64 (a.fdiv (2 ^ 1))):=rfl
 have h2:eqGuard .shr t x y (.int .u64 a) (.int .u64 1)=pure ():=rfl
 rw [h1,h2,e];rfl
theorem u64_s {a:Int} (h:0≤a∧a≤9223372036854775807):IntKind.u64.wrap a=a:=by
 unfold IntKind.wrap;simp [IntKind.bits,IntKind.signed];omega
def c209l1:MC:=(Z (Z (yr [qm 31 10,qm 32 11,qq 33 (yb .lss (Y 31) (Y 32))]) (yd (Y 33) yk (.exit 0))) (.blk 1 (Z (yr [qm 34 10,qm 35 11,qq 36 (yb .add (Y 34) (Y 35)),qq 37 (.cvi .u64 (Y 36)),qq 38 (.raw (.binOp .shr 206 (Y 37) (yc (.int .u64 1)) 206) 206),qq 39 (.cvi .i64 (Y 38)),qm 12 39]) (Z (.drg [qm 40 4,qm 41 0,qm 42 12,qq 43 (.adr 4 (Y 41) (Y 42)),qq 44 (.ld (.some 4) (Y 43)),qm 45 0,qm 46 1,qq 47 (.adr 4 (Y 45) (Y 46)),qq 48 (.ld (.some 4) (Y 47)),qq 49 (.raw (.call ⟨(.value (Y 40)),#[(Y 44),(Y 48)],#[179,179]⟩) 3),qq 50 (yb .lss (Y 49) (ki 0))] (.some (.br [qm 40 4,qm 41 0,qm 42 12,qq 43 (.adr 4 (Y 41) (Y 42)),qm 45 0,qm 46 1,qq 47 (.adr 4 (Y 45) (Y 46))] (.leaf [qq 44 (.ld (.some 4) (Y 43)),qq 48 (.ld (.some 4) (Y 47)),qq 49 (.raw (.call ⟨(.value (Y 40)),#[(Y 44),(Y 48)],#[179,179]⟩) 3),qq 50 (yb .lss (Y 49) (ki 0))]) (.leaf [qq 48 (.ld (.some 4) (Y 47)),qq 44 (.ld (.some 4) (Y 43)),qq 49 (.raw (.call ⟨(.value (Y 40)),#[(Y 44),(Y 48)],#[179,179]⟩) 3),qq 50 (yb .lss (Y 49) (ki 0))])))) (yd (Y 50) (yr [qm 51 12,qq 52 (yb .add (Y 51) (ki 1)),qm 10 52]) (yr [qm 53 12,qm 11 53]))))))
def c209l2:MC:=(Z (Z (yr [qm 55 13,qm 56 10,qq 57 (yb .sub (Y 56) (ki 1)),qq 58 (yb .lss (Y 55) (Y 57))]) (yd (Y 58) yk (.exit 2))) (Z (.blk 3 (.drg [qm 61 0,qm 62 13,qm 63 0,qm 64 13,qq 65 (yb .add (Y 64) (ki 1)),qm 66 0,qm 67 13,qq 68 (yb .add (Y 67) (ki 1)),qq 69 (.adr 4 (Y 66) (Y 68)),qq 70 (.ld (.some 4) (Y 69)),qm 71 0,qm 72 13,qq 73 (.adr 4 (Y 71) (Y 72)),qq 74 (.ld (.some 4) (Y 73)),qq 75 (.adr 4 (Y 61) (Y 62)),qn (.st 4 (Y 75) (Y 70)),qq 76 (.adr 4 (Y 63) (Y 65)),qn (.st 4 (Y 76) (Y 74))] (.some (.br [qm 61 0,qm 62 13,qm 63 0,qm 64 13,qq 65 (yb .add (Y 64) (ki 1)),qm 66 0,qm 67 13,qq 68 (yb .add (Y 67) (ki 1)),qq 69 (.adr 4 (Y 66) (Y 68)),qm 71 0,qm 72 13,qq 73 (.adr 4 (Y 71) (Y 72))] (.leaf [qq 70 (.ld (.some 4) (Y 69)),qq 74 (.ld (.some 4) (Y 73)),qq 75 (.adr 4 (Y 61) (Y 62)),qn (.st 4 (Y 75) (Y 70)),qq 76 (.adr 4 (Y 63) (Y 65)),qn (.st 4 (Y 76) (Y 74))]) (.leaf [qq 74 (.ld (.some 4) (Y 73)),qq 70 (.ld (.some 4) (Y 69)),qq 75 (.adr 4 (Y 61) (Y 62)),qn (.st 4 (Y 75) (Y 70)),qq 76 (.adr 4 (Y 63) (Y 65)),qn (.st 4 (Y 76) (Y 74))]))))) (yr [qm 59 13,qq 60 (yb .add (Y 59) (ki 1)),qm 13 60])))
def c209l3:MC:=(Z (Z (yr [qm 83 14,qm 84 15,qq 85 (yb .lss (Y 83) (Y 84))]) (yd (Y 85) yk (.exit 4))) (.blk 5 (Z (yr [qm 86 14,qm 87 15,qq 88 (yb .add (Y 86) (Y 87)),qq 89 (.cvi .u64 (Y 88)),qq 90 (.raw (.binOp .shr 206 (Y 89) (yc (.int .u64 1)) 206) 206),qq 91 (.cvi .i64 (Y 90)),qm 16 91]) (Z (.drg [qm 92 4,qm 93 0,qm 94 2,qq 95 (.adr 4 (Y 93) (Y 94)),qq 96 (.ld (.some 4) (Y 95)),qm 97 0,qm 98 16,qq 99 (.adr 4 (Y 97) (Y 98)),qq 100 (.ld (.some 4) (Y 99)),qq 101 (.raw (.call ⟨(.value (Y 92)),#[(Y 96),(Y 100)],#[179,179]⟩) 3),qq 102 (yb .lss (Y 101) (ki 0)),qq 103 (.un .not (Y 102))] (.some (.br [qm 92 4,qm 93 0,qm 94 2,qq 95 (.adr 4 (Y 93) (Y 94)),qm 97 0,qm 98 16,qq 99 (.adr 4 (Y 97) (Y 98))] (.leaf [qq 96 (.ld (.some 4) (Y 95)),qq 100 (.ld (.some 4) (Y 99)),qq 101 (.raw (.call ⟨(.value (Y 92)),#[(Y 96),(Y 100)],#[179,179]⟩) 3),qq 102 (yb .lss (Y 101) (ki 0)),qq 103 (.un .not (Y 102))]) (.leaf [qq 100 (.ld (.some 4) (Y 99)),qq 96 (.ld (.some 4) (Y 95)),qq 101 (.raw (.call ⟨(.value (Y 92)),#[(Y 96),(Y 100)],#[179,179]⟩) 3),qq 102 (yb .lss (Y 101) (ki 0)),qq 103 (.un .not (Y 102))])))) (yd (Y 103) (yr [qm 104 16,qq 105 (yb .add (Y 104) (ki 1)),qm 14 105]) (yr [qm 106 16,qm 15 106]))))))
def c209l4:MC:=(Z (Z (yr [qm 108 17,qm 109 14,qq 110 (yb .gtr (Y 108) (Y 109))]) (yd (Y 110) yk (.exit 6))) (Z (.blk 7 (.drg [qm 113 0,qm 114 17,qm 115 0,qm 116 17,qq 117 (yb .sub (Y 116) (ki 1)),qm 118 0,qm 119 17,qq 120 (yb .sub (Y 119) (ki 1)),qq 121 (.adr 4 (Y 118) (Y 120)),qq 122 (.ld (.some 4) (Y 121)),qm 123 0,qm 124 17,qq 125 (.adr 4 (Y 123) (Y 124)),qq 126 (.ld (.some 4) (Y 125)),qq 127 (.adr 4 (Y 113) (Y 114)),qn (.st 4 (Y 127) (Y 122)),qq 128 (.adr 4 (Y 115) (Y 117)),qn (.st 4 (Y 128) (Y 126))] (.some (.br [qm 113 0,qm 114 17,qm 115 0,qm 116 17,qq 117 (yb .sub (Y 116) (ki 1)),qm 118 0,qm 119 17,qq 120 (yb .sub (Y 119) (ki 1)),qq 121 (.adr 4 (Y 118) (Y 120)),qm 123 0,qm 124 17,qq 125 (.adr 4 (Y 123) (Y 124))] (.leaf [qq 122 (.ld (.some 4) (Y 121)),qq 126 (.ld (.some 4) (Y 125)),qq 127 (.adr 4 (Y 113) (Y 114)),qn (.st 4 (Y 127) (Y 122)),qq 128 (.adr 4 (Y 115) (Y 117)),qn (.st 4 (Y 128) (Y 126))]) (.leaf [qq 126 (.ld (.some 4) (Y 125)),qq 122 (.ld (.some 4) (Y 121)),qq 127 (.adr 4 (Y 113) (Y 114)),qn (.st 4 (Y 127) (Y 122)),qq 128 (.adr 4 (Y 115) (Y 117)),qn (.st 4 (Y 128) (Y 126))]))))) (yr [qm 111 17,qq 112 (yb .sub (Y 111) (ki 1)),qm 17 112])))
def c209l5:MC:=(Z (Z (yr [qm 149 20,qm 150 21,qq 151 (yb .lss (Y 149) (Y 150))]) (yd (Y 151) yk (.exit 8))) (.blk 9 (Z (yr [qm 152 20,qm 153 21,qq 154 (yb .add (Y 152) (Y 153)),qq 155 (.cvi .u64 (Y 154)),qq 156 (.raw (.binOp .shr 206 (Y 155) (yc (.int .u64 1)) 206) 206),qq 157 (.cvi .i64 (Y 156)),qm 23 157]) (Z (.drg [qm 158 4,qm 159 0,qm 160 22,qm 161 23,qq 162 (yb .sub (Y 160) (Y 161)),qq 163 (.adr 4 (Y 159) (Y 162)),qq 164 (.ld (.some 4) (Y 163)),qm 165 0,qm 166 23,qq 167 (.adr 4 (Y 165) (Y 166)),qq 168 (.ld (.some 4) (Y 167)),qq 169 (.raw (.call ⟨(.value (Y 158)),#[(Y 164),(Y 168)],#[179,179]⟩) 3),qq 170 (yb .lss (Y 169) (ki 0)),qq 171 (.un .not (Y 170))] (.some (.br [qm 158 4,qm 159 0,qm 160 22,qm 161 23,qq 162 (yb .sub (Y 160) (Y 161)),qq 163 (.adr 4 (Y 159) (Y 162)),qm 165 0,qm 166 23,qq 167 (.adr 4 (Y 165) (Y 166))] (.leaf [qq 164 (.ld (.some 4) (Y 163)),qq 168 (.ld (.some 4) (Y 167)),qq 169 (.raw (.call ⟨(.value (Y 158)),#[(Y 164),(Y 168)],#[179,179]⟩) 3),qq 170 (yb .lss (Y 169) (ki 0)),qq 171 (.un .not (Y 170))]) (.leaf [qq 168 (.ld (.some 4) (Y 167)),qq 164 (.ld (.some 4) (Y 163)),qq 169 (.raw (.call ⟨(.value (Y 158)),#[(Y 164),(Y 168)],#[179,179]⟩) 3),qq 170 (yb .lss (Y 169) (ki 0)),qq 171 (.un .not (Y 170))])))) (yd (Y 171) (yr [qm 172 23,qq 173 (yb .add (Y 172) (ki 1)),qm 20 173]) (yr [qm 174 23,qm 21 174]))))))
def c209:MC:=(Z (Z (yr [qm 25 2,qm 26 1,qq 27 (yb .sub (Y 25) (Y 26)),qq 28 (yb .eql (Y 27) (ki 1))]) (yd (Y 28) (Z (yr [qm 29 2,qm 10 29]) (Z (yr [qm 30 3,qm 11 30]) (Z (.blk 0 (.loop c209l1)) (Z (Z (yr [qm 54 1,qm 13 54]) (.blk 2 (.loop c209l2))) .ret)))) yk)) (Z (Z (yr [qm 77 3,qm 78 2,qq 79 (yb .sub (Y 77) (Y 78)),qq 80 (yb .eql (Y 79) (ki 1))]) (yd (Y 80) (Z (yr [qm 81 1,qm 14 81]) (Z (yr [qm 82 2,qm 15 82]) (Z (.blk 4 (.loop c209l3)) (Z (Z (yr [qm 107 2,qm 17 107]) (.blk 6 (.loop c209l4))) .ret)))) yk)) (Z (yr [qm 129 1,qm 130 3,qq 131 (yb .add (Y 129) (Y 130)),qq 132 (.cvi .u64 (Y 131)),qq 133 (.raw (.binOp .shr 206 (Y 132) (yc (.int .u64 1)) 206) 206),qq 134 (.cvi .i64 (Y 133)),qm 18 134]) (Z (yr [qm 135 18,qm 136 2,qq 137 (yb .add (Y 135) (Y 136)),qm 19 137]) (Z (yr [qq 20 (.mv (ki 0)),qq 21 (.mv (ki 0))]) (Z (Z (yr [qm 138 2,qm 139 18,qq 140 (yb .gtr (Y 138) (Y 139))]) (yd (Y 140) (Z (yr [qm 141 19,qm 142 3,qq 143 (yb .sub (Y 141) (Y 142)),qm 20 143]) (yr [qm 144 18,qm 21 144])) (Z (yr [qm 145 1,qm 20 145]) (yr [qm 146 2,qm 21 146])))) (Z (yr [qm 147 19,qq 148 (yb .sub (Y 147) (ki 1)),qm 22 148]) (Z (.blk 8 (.loop c209l5)) (Z (yr [qm 175 19,qm 176 20,qq 177 (yb .sub (Y 175) (Y 176)),qm 24 177]) (Z (Z (yr [qm 178 20,qm 179 2,qq 180 (yb .lss (Y 178) (Y 179)),qm 181 180,qmt 181 182 2,qmt 181 183 24,qt 181 184 (yb .lss (Y 182) (Y 183)),qq 185 (.pick (Y 181) (Y 184) (kb false))]) (yd (Y 185) (yr [qm 186 0,qm 187 20,qm 188 2,qm 189 24,qm 190 4,qq 191 (yl 210 [(Y 186),(Y 187),(Y 188),(Y 189),(Y 190)])]) yk)) (Z (Z (yr [qm 192 1,qm 193 20,qq 194 (yb .lss (Y 192) (Y 193)),qm 195 194,qmt 195 196 20,qmt 195 197 18,qt 195 198 (yb .lss (Y 196) (Y 197)),qq 199 (.pick (Y 195) (Y 198) (kb false))]) (yd (Y 199) (yr [qm 200 0,qm 201 1,qm 202 20,qm 203 18,qm 204 4,qq 205 (yl 209 [(Y 200),(Y 201),(Y 202),(Y 203),(Y 204)])]) yk)) (Z (yr [qm 206 18,qm 207 24,qq 208 (yb .lss (Y 206) (Y 207)),qm 209 208,qmt 209 210 24,qmt 209 211 3,qt 209 212 (yb .lss (Y 210) (Y 211)),qq 213 (.pick (Y 209) (Y 212) (kb false))]) (yd (Y 213) (yr [qm 214 0,qm 215 18,qm 216 24,qm 217 3,qm 218 4,qq 219 (yl 209 [(Y 214),(Y 215),(Y 216),(Y 217),(Y 218)])]) yk)))))))))))))
def symT:MC:=match c209 with
 | .seq _ (.seq _ (.seq _ (.seq _ (.seq _ (.seq _ (.seq _ (.seq _ (.seq _ (.seq _ t)))))))))=>t
 | x=>x
def symC2 (T:MC):MC:=match symT with
 | .seq a _=>.seq a T
 | x=>x
def symT2:MC:=match symT with
 | .seq _ t=>t
 | x=>x
theorem sym_eq2:symT=symC2 symT2:=by rfl
def SymOK (N:Nat) (v:Value) (w0:World) (M:List Chk):Prop:=∀ (w:World) (xs:List Gs) (a m b:Nat),b - a < N→Sep w0 w (accC v 179 eG xs :: M)→BdG xs→MgPre gsc gix a m b xs→a < m→m < b →
 Ret Tryz.prog 209 #[v,I a,I m,I b,(.func (.func 190) #[] #[])] w fun res w'=>res=.tuple #[]∧∃ ys,MgPost gsc gix a b xs ys∧Sep w0 w' (accC v 179 eG ys :: M)
theorem sym_t2 {n N:Nat} {ρ:Fr} {R:Value→World→Prop} {a mid e b:Nat} (hN:SymOK N v w0 M) (hlt:b - mid < N) (q0:ρ 0=v) (q3:ρ 3=I b) (q4:ρ 4=(.func (.func 190) #[] #[])) (q18:ρ 18=I mid) (q24:ρ 24=I e)
 (hS:Sep w0 w (accC v 179 eG xs :: M)) (hB:BdG xs) (hp:MgPre gsc gix mid e b xs) (hR:∀ ys w',MgPost gsc gix mid b xs ys→Sep w0 w' (accC v 179 eG ys :: M)→R (.tuple #[]) w') :
 G Tryz.prog Tryz.f209 n [.c symT2] R ρ w:=by
 unfold symT2 symT c209
 dsimp only
 have h1:=hp.am
 have h2:=hp.mb
 by_cases hc0:mid < e∧e < b
 ·obtain ⟨f1,f2⟩:=hc0
  have hcc:=hN w xs mid e b hlt hS hB hp f1 f2
  (have fct:=(a5 @q0 @q3 @q4 @q18 @q24);repeat' (first|(refine gO ?_;intro K hK)|(refine kP ?_;clear hK K)|(refine hK _ _ ?_ ?_<;>clear hK K)|(intro wd hxd;have hS:=Sep.xx hxd)|refine sA ?_|(refine bM ?_ ?_<;>intro hb hc<;>first|exact zxf|(simp only [hb];clear hb))|((with_reducible refine gSt ?_);refine zs2 ?_;intro wb hS)|(refine zcv ?_)|(refine zco 209 (hcc) ?_;rintro vb wb ⟨rfl,ys,hy,hS⟩)|(refine G.cn ?_ ?_<;>intro hc<;>try exact zxf)))<;>(try clear fct)
  all_goals
   (refine G.d0 ?_)
   exact hR ys _ hy hS
 ·have hx:MgPost gsc gix mid b xs xs:=by
   rcases Nat.lt_or_ge mid e with h|h
   ·have:e=b:=by omega
    subst this;exact hp.at_r
   ·have:mid=e:=by omega
    subst this;exact hp.at_l
  (have fct:=(a5 @q0 @q3 @q4 @q18 @q24);repeat' (first|(refine gO ?_;intro K hK)|(refine kP ?_;clear hK K)|(refine hK _ _ ?_ ?_<;>clear hK K)|(intro wd hxd;have hS:=Sep.xx hxd)|refine sA ?_|(refine bM ?_ ?_<;>intro hb hc<;>first|exact zxf|(simp only [hb];clear hb))|((with_reducible refine gSt ?_);refine zs2 ?_;intro wb hS)|(refine zcv ?_)|(refine G.cn ?_ ?_<;>intro hc<;>try exact zxf)))<;>(try clear fct)
  all_goals
   (refine G.d0 ?_)
   exact hR xs _ hx hS
theorem sym_t1 {n N:Nat} {ρ:Fr} {R:Value→World→Prop} {a s mid e b:Nat} (hN:SymOK N v w0 M) (hlt:mid - a < N) (hlt2:b - mid < N) (q0:ρ 0=v) (q1:ρ 1=I a) (q3:ρ 3=I b) (q4:ρ 4=(.func (.func 190) #[] #[])) (q18:ρ 18=I mid) (q20:ρ 20=I s) (q24:ρ 24=I e)
 (hS:Sep w0 w (accC v 179 eG xs :: M)) (hB:BdG xs) (hp:MgPre gsc gix a s mid xs) (hp2:MgPre gsc gix mid e b xs) (hR:∀ ys zs w',MgPost gsc gix a mid xs ys→MgPost gsc gix mid b ys zs→Sep w0 w' (accC v 179 eG zs :: M)→R (.tuple #[]) w') :
 G Tryz.prog Tryz.f209 n [.c symT] R ρ w:=by
 rw [sym_eq2]
 have h1:=hp.am
 have h2:=hp.mb
 have h3:=hp2.len
 have t2:∀ (ρ':Fr) (w':World) (ys:List Gs),ρ' 0=v→ρ' 3=I b→ρ' 4=(.func (.func 190) #[] #[])→ρ' 18=I mid→ρ' 24=I e→MgPost gsc gix a mid xs ys→Sep w0 w' (accC v 179 eG ys :: M) →
  G Tryz.prog Tryz.f209 n [.c symT2] R ρ' w':=fun ρ' w' ys p0 p3 p4 p18 p24 hy hS =>
  sym_t2 (a:=a) hN hlt2 p0 p3 p4 p18 p24 hS (hB.perm hy.kept.perm) (hp2.same hy.kept.len fun k h1 h2=>hy.kept.out k (.inr h1)) fun zs w'' hz hS=>hR ys zs w'' hy hz hS
 generalize symT2=T at *
 unfold symC2 symT c209
 dsimp only
 by_cases hc0:a < s∧s < mid
 ·obtain ⟨f1,f2⟩:=hc0
  have hcc:=hN w xs a s mid hlt hS hB hp f1 f2
  (have fct:=(a7 @q0 @q1 @q3 @q4 @q18 @q20 @q24);repeat' (first|(refine gO ?_;intro K hK)|(refine kP ?_;clear hK K)|(refine hK _ _ ?_ ?_<;>clear hK K)|(intro wd hxd;have hS:=Sep.xx hxd)|refine sA ?_|(refine bM ?_ ?_<;>intro hb hc<;>first|exact zxf|(simp only [hb];clear hb))|((with_reducible refine gSt ?_);refine zs2 ?_;intro wb hS)|(refine zcv ?_)|(refine zco 209 (hcc) ?_;rintro vb wb ⟨rfl,ys,hy,hS⟩)|(refine G.cn ?_ ?_<;>intro hc<;>try exact zxf)))<;>(try clear fct)
  all_goals
   exact t2 _ _ ys (by simp only [push_cast,↓reduceIte,zq1,zq2,zq3,zq4,zq5,q0,q1,q3,q4,q18,q20,q24]) (by simp only [push_cast,↓reduceIte,zq1,zq2,zq3,zq4,zq5,q0,q1,q3,q4,q18,q20,q24]) (by simp only [push_cast,↓reduceIte,zq1,zq2,zq3,zq4,zq5,q0,q1,q3,q4,q18,q20,q24]) (by simp only [push_cast,↓reduceIte,zq1,zq2,zq3,zq4,zq5,q0,q1,q3,q4,q18,q20,q24]) (by simp only [push_cast,↓reduceIte,zq1,zq2,zq3,zq4,zq5,q0,q1,q3,q4,q18,q20,q24]) hy hS
 ·have hx:MgPost gsc gix a mid xs xs:=by
   rcases Nat.lt_or_ge a s with h|h
   ·have:s=mid:=by omega
    subst this;exact hp.at_r
   ·have:a=s:=by omega
    subst this;exact hp.at_l
  (have fct:=(a7 @q0 @q1 @q3 @q4 @q18 @q20 @q24);repeat' (first|(refine gO ?_;intro K hK)|(refine kP ?_;clear hK K)|(refine hK _ _ ?_ ?_<;>clear hK K)|(intro wd hxd;have hS:=Sep.xx hxd)|refine sA ?_|(refine bM ?_ ?_<;>intro hb hc<;>first|exact zxf|(simp only [hb];clear hb))|((with_reducible refine gSt ?_);refine zs2 ?_;intro wb hS)|(refine zcv ?_)|(refine G.cn ?_ ?_<;>intro hc<;>try exact zxf)))<;>(try clear fct)
  all_goals
   exact t2 _ _ xs (by simp only [push_cast,↓reduceIte,zq1,zq2,zq3,zq4,zq5,q0,q1,q3,q4,q18,q20,q24]) (by simp only [push_cast,↓reduceIte,zq1,zq2,zq3,zq4,zq5,q0,q1,q3,q4,q18,q20,q24]) (by simp only [push_cast,↓reduceIte,zq1,zq2,zq3,zq4,zq5,q0,q1,q3,q4,q18,q20,q24]) (by simp only [push_cast,↓reduceIte,zq1,zq2,zq3,zq4,zq5,q0,q1,q3,q4,q18,q20,q24]) (by simp only [push_cast,↓reduceIte,zq1,zq2,zq3,zq4,zq5,q0,q1,q3,q4,q18,q20,q24]) hx hS
end
section
variable {v:Value} {w w0:World} {M:List Chk} {xs:List Gs}
def symA (X:MC):MC:=match c209 with
 | .seq a (.seq b (.seq c (.seq d (.seq e (.seq f _)))))=>.seq a (.seq b (.seq c (.seq d (.seq e (.seq f X)))))
 | x=>x
def symX (T:MC):MC:=match c209 with
 | .seq _ (.seq _ (.seq _ (.seq _ (.seq _ (.seq _ (.seq g (.seq h (.seq i (.seq j _)))))))))=>.seq g (.seq h (.seq i (.seq j T)))
 | x=>x
theorem sym_eqA:c209=symA (symX symT):=by rfl
set_option maxHeartbeats 1000000 in
theorem sym_x {n N:Nat} {ρ:Fr} {R:Value→World→Prop} {a m b mid lo hi:Nat} (hN:SymOK N v w0 M) (hN2:b - a≤N) (hp:MgPre gsc gix a m b xs) (ham:a+1 < m) (hmb:m+1 < b) (hmid:mid=(a+b) / 2)
 (l1:a≤lo) (l2:lo≤hi) (l3:hi≤m) (l4:hi≤mid) (l5:mid+m≤b+lo) (l6:lo=a∨mid+m=b+lo) (l7:hi=m∨hi=mid)
 (q0:ρ 0=v) (q1:ρ 1=I a) (q2:ρ 2=I m) (q3:ρ 3=I b) (q4:ρ 4=(.func (.func 190) #[] #[])) (q18:ρ 18=I mid) (q19:ρ 19=I ((mid:Int)+m)) (q20:ρ 20=I lo) (q21:ρ 21=I hi)
 (hS:Sep w0 w (accC v 179 eG xs :: M)) (hB:BdG xs) (hR:∀ ys w',MgPost gsc gix a b xs ys→Sep w0 w' (accC v 179 eG ys :: M)→R (.tuple #[]) w') :
 G Tryz.prog Tryz.f209 n [.c (symX symT)] R ρ w:=by
 have hB1:=hB.1
 have hlen:=hp.len
 have t1:∀ (ρ':Fr) (w':World) (s e:Nat) (cur:List Gs),a≤s→s≤m→s≤mid→e+s=mid+m→e≤b→(s=a∨e=b∨Bef gsc gix (xs.getD (s - 1) default) (xs.getD e default))→(s=m∨e=m∨Bef gsc gix (xs.getD (e - 1) default) (xs.getD s default)) →
  cur.Perm xs→AtS xs cur (rotSw s m e)→ρ' 0=v→ρ' 1=I a→ρ' 3=I b→ρ' 4=(.func (.func 190) #[] #[])→ρ' 18=I mid→ρ' 20=I s→ρ' 24=I e→Sep w0 w' (accC v 179 eG cur :: M) →
  G Tryz.prog Tryz.f209 n [.c symT] R ρ' w':=by
  intro ρ' w' s e cur h1 h2 h3 h4 h5 h6 h7 hpm hat p0 p1 p3 p4 p18 p20 p24 hS
  obtain ⟨g1,g2,g3⟩:=mg_split hp hmid h1 h2 h3 h4 h5 h6 h7 hat hpm.length_eq
  refine sym_t1 hN zo zo p0 p1 p3 p4 p18 p20 p24 hS (hB.perm hpm) g1 g2 fun ys zs w'' hy hz hS=>hR zs w'' ?_ hS
  exact mg_join (m:=m) (Kept.of_at hpm hat fun k hk=>rot_out zo zo zo) zo zo hp.len g3 hy hz
 generalize symT=T at *
 unfold symX c209
 dsimp only
 obtain ⟨p,ep⟩:∃ p,p=mid+m - 1:=⟨_,rfl⟩
 have fp:(mid:Int)+(m:Int) - 1=(p:Int):=by omega
 (have fct:=(a10 @q0 @q1 @q2 @q3 @q4 @q18 @q19 @q20 @q21 @fp);repeat' (first|(refine gO ?_;intro K hK)|(refine kP ?_;clear hK K)|(refine hK _ _ ?_ ?_<;>clear hK K)|(intro wd hxd;have hS:=Sep.xx hxd)|refine sA ?_|(refine bM ?_ ?_<;>intro hb hc<;>first|exact zxf|(simp only [hb];clear hb))|((with_reducible refine gSt ?_);refine zs2 ?_;intro wb hS)|(refine zcv ?_)|(refine G.cn ?_ ?_<;>intro hc<;>try exact zxf)))<;>(try clear fct)
 refine G.loop (fun r w'=>∃ s t:Nat,lo≤s∧s≤t∧t≤hi∧(s=lo∨Bef gsc gix (xs.getD (s - 1) default) (xs.getD (mid+m - s) default))∧(t=hi∨Bef gsc gix (xs.getD (mid+m - t - 1) default) (xs.getD t default)) ∧
  r 0=v∧r 1=I a∧r 2=I m∧r 3=I b∧r 4=(.func (.func 190) #[] #[])∧r 18=I mid∧r 19=I ((mid:Int)+m)∧r 20=I s∧r 21=I t∧r 22=I p∧Sep w0 w' (accC v 179 eG xs :: M)) (fun r _=>toN (r 21) - toN (r 20)) ?_ ?_
 ·have fct:=(a10 @q0 @q1 @q2 @q3 @q4 @q18 @q19 @q20 @q21 @fp);exact ⟨lo,hi,Nat.le_refl _,l2,Nat.le_refl _,.inl rfl,.inl rfl,by exact sf,by exact sf,by exact sf,by exact sf,by exact sf,by exact sf,by exact sf,by exact sf,by exact sf,by exact sf,hS⟩
 ·clear hS q0 q1 q2 q3 q4 q18 q19 q20 q21
  rintro u wl ⟨s,t,hs,hst,ht,b1,b2,q0,q1,q2,q3,q4,q18,q19,q20,q21,q22,hS⟩ ih
  have hm1:toN (u 20)=s:=by rw [q20];simp [toN]
  have hm2:toN (u 21)=t:=by rw [q21];simp [toN]
  by_cases hlt:(s:Int) < t
  ·obtain ⟨c,ec⟩:∃ c,c=(s+t) / 2:=⟨_,rfl⟩
   have fc:((s:Int)+(t:Int)) / 2=(c:Int):=by omega
   have fu:IntKind.u64.wrap ((s:Int)+(t:Int))=(s:Int)+(t:Int):=u64_s zo
   obtain ⟨q,eq⟩:∃ q,q=p - c:=⟨_,rfl⟩
   have fq:(p:Int) - (c:Int)=(q:Int):=by omega
   have hcm:∀ w,_:=fun w=>gcmp_spec (xs.getD q default) (xs.getD c default) w (hB.at zo) (hB.at zo)
   have hix:=hp.s c q zo zo zo zo
   have eq2:q=mid+m - c - 1:=by omega
   have eq3:mid+m - (c+1)=q:=by omega
   by_cases hl2:(xs.getD c default).sc - (xs.getD q default).sc < 0
   ·have hbf:Bef gsc gix (xs.getD q default) (xs.getD c default):=bef_lt (by show (xs.getD c default).sc < (xs.getD q default).sc;omega)
    (have fct:=(aI @q0 (aI @q1 (aI @q2 (aI @q3 (aI @q4 (aI @q18 (aI @q19 (aI @q20 (aI @q21 (aI @q22 (aI @shU (aI @fu (aI @fc @fq)))))))))))));repeat' (first|(refine gO ?_;intro K hK)|(refine kP ?_;clear hK K)|(refine hK _ _ ?_ ?_<;>clear hK K)|(intro wd hxd;have hS:=Sep.xx hxd)|refine sA ?_|(refine bM ?_ ?_<;>intro hb hc<;>first|exact zxf|(simp only [hb];clear hb))|((with_reducible refine gSt ?_);refine zs2 ?_;intro wb hS)|(refine zcv ?_)|(refine zcp 190 (hcm _) ?_;intro wb hS)|(refine G.cn ?_ ?_<;>intro hc<;>try exact zxf)))<;>(try clear fct)
    all_goals
     have fct:=(a10 @q0 @q1 @q2 @q3 @q4 @q18 @q19 @q20 @q21 @q22);refine ih _ _ ⟨s,c,hs,by omega,by omega,b1,.inr (by rw [←eq2];exact hbf),by exact sf,by exact sf,by exact sf,by exact sf,by exact sf,by exact sf,by exact sf,by exact sf,by exact sf,by exact sf,hS⟩ ?_
     rw [hm1,hm2];simp only [push_cast,↓reduceIte,zq1,zq2,zq3,zq4,zq5,toN_i,q0,q1,q2,q3,q4,q18,q19,q20,q21,q22];omega
   ·have hbf:Bef gsc gix (xs.getD c default) (xs.getD q default):=bef_ge (by show ¬ (xs.getD c default).sc < (xs.getD q default).sc;omega) hix
    (have fct:=(aI @q0 (aI @q1 (aI @q2 (aI @q3 (aI @q4 (aI @q18 (aI @q19 (aI @q20 (aI @q21 (aI @q22 (aI @shU (aI @fu (aI @fc @fq)))))))))))));repeat' (first|(refine gO ?_;intro K hK)|(refine kP ?_;clear hK K)|(refine hK _ _ ?_ ?_<;>clear hK K)|(intro wd hxd;have hS:=Sep.xx hxd)|refine sA ?_|(refine bM ?_ ?_<;>intro hb hc<;>first|exact zxf|(simp only [hb];clear hb))|((with_reducible refine gSt ?_);refine zs2 ?_;intro wb hS)|(refine zcv ?_)|(refine zcp 190 (hcm _) ?_;intro wb hS)|(refine G.cn ?_ ?_<;>intro hc<;>try exact zxf)))<;>(try clear fct)
    all_goals
     have fct:=(a10 @q0 @q1 @q2 @q3 @q4 @q18 @q19 @q20 @q21 @q22);refine ih _ _ ⟨c+1,t,by omega,by omega,ht,.inr (by rw [eq3,Nat.add_sub_cancel];exact hbf),b2,by exact sf,by exact sf,by exact sf,by exact sf,by exact sf,by exact sf,by exact sf,by exact sf,by exact sf,by exact sf,hS⟩ ?_
     rw [hm1,hm2];simp only [push_cast,↓reduceIte,zq1,zq2,zq3,zq4,zq5,toN_i,q0,q1,q2,q3,q4,q18,q19,q20,q21,q22];omega
  ·have est:s=t:=by omega
   subst est
   obtain ⟨e,ee⟩:∃ e,e=mid+m - s:=⟨_,rfl⟩
   have fe:(mid:Int)+(m:Int) - (s:Int)=(e:Int):=by omega
   have c1:s=a∨e=b∨Bef gsc gix (xs.getD (s - 1) default) (xs.getD e default):=by
    rcases b1 with h|h
    ·rcases l6 with h6|h6
     ·exact .inl zo
     ·exact .inr (.inl zo)
    ·exact .inr (.inr (by rw [ee];exact h))
   have c2:s=m∨e=m∨Bef gsc gix (xs.getD (e - 1) default) (xs.getD s default):=by
    rcases b2 with h|h
    ·rcases l7 with h7|h7
     ·exact .inl zo
     ·exact .inr (.inl zo)
    ·exact .inr (.inr (by rw [ee];exact h))
   by_cases hr:s < m∧m < e
   ·obtain ⟨r1,r2⟩:=hr
    have hcc:∀ {w},Sep w0 w (accC v 179 eG xs :: M)→_:=fun {w} h=>rot_spec (w:=w) h hB s m e r1 r2 zo
    (have fct:=(a11 @q0 @q1 @q2 @q3 @q4 @q18 @q19 @q20 @q21 @q22 @fe);repeat' (first|(refine gO ?_;intro K hK)|(refine kP ?_;clear hK K)|(refine hK _ _ ?_ ?_<;>clear hK K)|(intro wd hxd;have hS:=Sep.xx hxd)|refine sA ?_|(refine bM ?_ ?_<;>intro hb hc<;>first|exact zxf|(simp only [hb];clear hb))|((with_reducible refine gSt ?_);refine zs2 ?_;intro wb hS)|(refine zcv ?_)|(refine zco 210 (hcc hS) ?_;rintro vb wb ⟨rfl,ys,hy,hya,hS⟩)|(refine G.cn ?_ ?_<;>intro hc<;>try exact zxf)))<;>(try clear fct)
    all_goals
     exact t1 _ _ s e ys zo zo zo zo zo c1 c2 hy hya (by simp only [push_cast,↓reduceIte,zq1,zq2,zq3,zq4,zq5,q0,q1,q2,q3,q4,q18,q19,q20,q21,q22]) (by simp only [push_cast,↓reduceIte,zq1,zq2,zq3,zq4,zq5,q0,q1,q2,q3,q4,q18,q19,q20,q21,q22]) (by simp only [push_cast,↓reduceIte,zq1,zq2,zq3,zq4,zq5,q0,q1,q2,q3,q4,q18,q19,q20,q21,q22]) (by simp only [push_cast,↓reduceIte,zq1,zq2,zq3,zq4,zq5,q0,q1,q2,q3,q4,q18,q19,q20,q21,q22]) (by simp only [push_cast,↓reduceIte,zq1,zq2,zq3,zq4,zq5,q0,q1,q2,q3,q4,q18,q19,q20,q21,q22]) (by simp only [push_cast,↓reduceIte,zq1,zq2,zq3,zq4,zq5,q0,q1,q2,q3,q4,q18,q19,q20,q21,q22]) (by simp only [push_cast,↓reduceIte,zq1,zq2,zq3,zq4,zq5,q0,q1,q2,q3,q4,q18,q19,q20,q21,q22,fe]) hS
   ·(have fct:=(a11 @q0 @q1 @q2 @q3 @q4 @q18 @q19 @q20 @q21 @q22 @fe);repeat' (first|(refine gO ?_;intro K hK)|(refine kP ?_;clear hK K)|(refine hK _ _ ?_ ?_<;>clear hK K)|(intro wd hxd;have hS:=Sep.xx hxd)|refine sA ?_|(refine bM ?_ ?_<;>intro hb hc<;>first|exact zxf|(simp only [hb];clear hb))|((with_reducible refine gSt ?_);refine zs2 ?_;intro wb hS)|(refine zcv ?_)|(refine G.cn ?_ ?_<;>intro hc<;>try exact zxf)))<;>(try clear fct)
    all_goals
     exact t1 _ _ s e xs zo zo zo zo zo c1 c2 (.refl _) (fun k=>by
      rcases Nat.lt_or_ge s m with h|h
      ·rw [show e=m from by omega,rot_r]
      ·rw [show s=m from by omega,rot_l]) (by simp only [push_cast,↓reduceIte,zq1,zq2,zq3,zq4,zq5,q0,q1,q2,q3,q4,q18,q19,q20,q21,q22]) (by simp only [push_cast,↓reduceIte,zq1,zq2,zq3,zq4,zq5,q0,q1,q2,q3,q4,q18,q19,q20,q21,q22]) (by simp only [push_cast,↓reduceIte,zq1,zq2,zq3,zq4,zq5,q0,q1,q2,q3,q4,q18,q19,q20,q21,q22]) (by simp only [push_cast,↓reduceIte,zq1,zq2,zq3,zq4,zq5,q0,q1,q2,q3,q4,q18,q19,q20,q21,q22]) (by simp only [push_cast,↓reduceIte,zq1,zq2,zq3,zq4,zq5,q0,q1,q2,q3,q4,q18,q19,q20,q21,q22]) (by simp only [push_cast,↓reduceIte,zq1,zq2,zq3,zq4,zq5,q0,q1,q2,q3,q4,q18,q19,q20,q21,q22]) (by simp only [push_cast,↓reduceIte,zq1,zq2,zq3,zq4,zq5,q0,q1,q2,q3,q4,q18,q19,q20,q21,q22,fe]) hS
set_option maxHeartbeats 2000000 in
theorem sym_ok (v : Value) (w0:World) (M:List Chk):∀ N,SymOK N v w0 M
 | 0=>fun w xs a m b h=>by omega
 | N + 1 => by
   have hN:=sym_ok v w0 M N
   intro w xs a m b hlt hS hB hp ham hmb
   have hB1:=hB.1
   have hlen:=hp.len
   refine En 220 c209 Tryz.func209 ?_
   by_cases h1:m=a+1
   ·subst h1
    have f1:((a+1:Nat):Int) - (a:Int)=1:=by omega
    repeat' (first|(refine gO ?_;intro K hK)|(refine kP ?_;clear hK K)|(refine hK _ _ ?_ ?_<;>clear hK K)|(intro wd hxd;have hS:=Sep.xx hxd)|refine sA ?_|(refine bM ?_ ?_<;>intro hb hc<;>first|exact zxf|(simp only [hb];clear hb))|((with_reducible refine gSt ?_);refine zs2 ?_;intro wb hS)|(refine zcv ?_)|(refine G.cn ?_ ?_<;>intro hc<;>try exact zxf))
    refine G.loop (fun r w'=>∃ i j:Nat,a+1≤i∧i≤j∧j≤b∧(i=a+1∨Bef gsc gix (xs.getD (i - 1) default) (xs.getD a default))∧(j=b∨Bef gsc gix (xs.getD a default) (xs.getD j default)) ∧
     r 0=v∧r 1=I a∧r 4=(.func (.func 190) #[] #[])∧r 10=I i∧r 11=I j∧Sep w0 w' (accC v 179 eG xs :: M)) (fun r _=>toN (r 11) - toN (r 10)) ?_ ?_
    ·exact ⟨a+1,b,Nat.le_refl _,by omega,Nat.le_refl _,.inl rfl,.inl rfl,by exact sf,by exact sf,by exact sf,by exact sf,by exact sf,hS⟩
    ·clear hS
     rintro u wl ⟨i,j,hi,hij,hj,b1,b2,q0,q1,q4,q10,q11,hS⟩ ih
     have hm1:toN (u 10)=i:=by rw [q10];simp [toN]
     have hm2:toN (u 11)=j:=by rw [q11];simp [toN]
     by_cases hl:(i:Int) < j
     ·obtain ⟨h,eh⟩:∃ h,h=(i+j) / 2:=⟨_,rfl⟩
      have fh:((i:Int)+(j:Int)) / 2=(h:Int):=by omega
      have fu:IntKind.u64.wrap ((i:Int)+(j:Int))=(i:Int)+(j:Int):=u64_s zo
      have hcm:∀ w,_:=fun w=>gcmp_spec (xs.getD h default) (xs.getD a default) w (hB.at zo) (hB.at zo)
      have hix:=hp.s a h zo zo zo zo
      by_cases hl2:(xs.getD a default).sc - (xs.getD h default).sc < 0
      ·have hbf:Bef gsc gix (xs.getD h default) (xs.getD a default):=bef_lt (by show (xs.getD a default).sc < (xs.getD h default).sc;omega)
       (have fct:=(a8 @q0 @q1 @q4 @q10 @q11 @shU @fu @fh);repeat' (first|(refine gO ?_;intro K hK)|(refine kP ?_;clear hK K)|(refine hK _ _ ?_ ?_<;>clear hK K)|(intro wd hxd;have hS:=Sep.xx hxd)|refine sA ?_|(refine bM ?_ ?_<;>intro hb hc<;>first|exact zxf|(simp only [hb];clear hb))|((with_reducible refine gSt ?_);refine zs2 ?_;intro wb hS)|(refine zcv ?_)|(refine zcp 190 (hcm _) ?_;intro wb hS)|(refine G.cn ?_ ?_<;>intro hc<;>try exact zxf)))<;>(try clear fct)
       all_goals
        have fct:=(a5 @q0 @q1 @q4 @q10 @q11);refine ih _ _ ⟨h+1,j,by omega,by omega,hj,.inr hbf,b2,by exact sf,by exact sf,by exact sf,by exact sf,by exact sf,hS⟩ ?_
        rw [hm1,hm2];simp only [push_cast,↓reduceIte,zq1,zq2,zq3,zq4,zq5,toN_i,q0,q1,q4,q10,q11];omega
      ·have hbf:Bef gsc gix (xs.getD a default) (xs.getD h default):=bef_ge (by show ¬ (xs.getD a default).sc < (xs.getD h default).sc;omega) hix
       (have fct:=(a8 @q0 @q1 @q4 @q10 @q11 @shU @fu @fh);repeat' (first|(refine gO ?_;intro K hK)|(refine kP ?_;clear hK K)|(refine hK _ _ ?_ ?_<;>clear hK K)|(intro wd hxd;have hS:=Sep.xx hxd)|refine sA ?_|(refine bM ?_ ?_<;>intro hb hc<;>first|exact zxf|(simp only [hb];clear hb))|((with_reducible refine gSt ?_);refine zs2 ?_;intro wb hS)|(refine zcv ?_)|(refine zcp 190 (hcm _) ?_;intro wb hS)|(refine G.cn ?_ ?_<;>intro hc<;>try exact zxf)))<;>(try clear fct)
       all_goals
        have fct:=(a5 @q0 @q1 @q4 @q10 @q11);refine ih _ _ ⟨i,h,hi,by omega,by omega,b1,.inr hbf,by exact sf,by exact sf,by exact sf,by exact sf,by exact sf,hS⟩ ?_
        rw [hm1,hm2];simp only [push_cast,↓reduceIte,zq1,zq2,zq3,zq4,zq5,toN_i,q0,q1,q4,q10,q11];omega
     ·have eij : i=j:=by omega
      subst eij
      obtain ⟨i',ei⟩:∃ i',i=i'+1:=⟨i - 1,by omega⟩
      subst ei
      have fi:((i':Int)+1) - 1=(i':Int):=by omega
      (have fct:=(a5 @q0 @q1 @q4 @q10 @q11);repeat' (first|(refine gO ?_;intro K hK)|(refine kP ?_;clear hK K)|(refine hK _ _ ?_ ?_<;>clear hK K)|(intro wd hxd;have hS:=Sep.xx hxd)|refine sA ?_|(refine bM ?_ ?_<;>intro hb hc<;>first|exact zxf|(simp only [hb];clear hb))|((with_reducible refine gSt ?_);refine zs2 ?_;intro wb hS)|(refine zcv ?_)|(refine G.cn ?_ ?_<;>intro hc<;>try exact zxf)))<;>(try clear fct)
      refine G.loop (fun r w'=>∃ (k:Nat) (cur:List Gs),a≤k∧k≤i'∧cur.Perm xs∧AtS xs cur (mvUp a k)∧r 0=v∧r 10=I ((i':Int)+1)∧r 13=I k∧Sep w0 w' (accC v 179 eG cur :: M)) (fun r _=>i' - toN (r 13)) ?_ ?_
      ·have fct:=(a5 @q0 @q1 @q4 @q10 @q11);exact ⟨a,xs,Nat.le_refl _,by omega,.refl _,fun k=>by rw [mvUp_self],by exact sf,by exact sf,by exact sf,hS⟩
      ·clear hS q0 q1 q4 q10 q11 ih
       rintro u2 wl2 ⟨k,cur,hk,hki,hpm,hat,q0,q10,q13,hS⟩ ih
       have hm3:toN (u2 13)=k:=by rw [q13];simp [toN]
       have hcl:=hpm.length_eq
       by_cases hl:(k:Int) < i'
       ·obtain ⟨k',ek⟩:∃ k',k'=k+1:=⟨_,rfl⟩
        have fk:(k:Int)+1=(k':Int):=by omega
        (have fct:=(a5 @q0 @q10 @q13 @fi @fk);repeat' (first|(refine gO ?_;intro K hK)|(refine kP ?_;clear hK K)|(refine hK _ _ ?_ ?_<;>clear hK K)|(intro wd hxd;have hS:=Sep.xx hxd)|refine sA ?_|(refine bM ?_ ?_<;>intro hb hc<;>first|exact zxf|(simp only [hb];clear hb))|((with_reducible refine gSt ?_);refine zs2 ?_;intro wb hS)|(refine zcv ?_)|(refine zse ?_ (h1:=eG_one _);intro wb hS)|(refine G.cn ?_ ?_<;>intro hc<;>try exact zxf)))<;>(try clear fct)
        all_goals
         have fct:=(a4 @q0 @q10 @q13 @fk);refine ih _ _ ⟨k',swapL cur k k',by omega,by omega,(swapL_perm cur k k' zo zo).trans hpm,by rw [ek];exact up_step hat hk zo,by exact sf,by exact sf,by exact sf,hS⟩ ?_
         rw [hm3];simp only [push_cast,↓reduceIte,zq1,zq2,zq3,zq4,zq5,toN_i,q0,q10,q13,fk];omega
       ·have ek:k=i':=by omega
        subst ek
        (have fct:=(a4 @q0 @q10 @q13 @fi);repeat' (first|(refine gO ?_;intro K hK)|(refine kP ?_;clear hK K)|(refine hK _ _ ?_ ?_<;>clear hK K)|(intro wd hxd;have hS:=Sep.xx hxd)|refine sA ?_|(refine bM ?_ ?_<;>intro hb hc<;>first|exact zxf|(simp only [hb];clear hb))|((with_reducible refine gSt ?_);refine zs2 ?_;intro wb hS)|(refine zcv ?_)|(refine G.cn ?_ ?_<;>intro hc<;>try exact zxf)))<;>(try clear fct)
        all_goals
         (have fct:=(a3 @q0 @q10 @q13);refine rM ?_)
         refine ⟨cur,⟨Kept.of_at hpm hat fun t ht=>by unfold mvUp;rw [if_neg zo,if_neg zo],up_ord hp.r hat hk zo ?_ ?_⟩,hS⟩
         ·rcases b1 with h|h
          ·exact .inl zo
          ·exact .inr h
         ·exact b2
   ·by_cases h2 : b=m+1
    ·subst h2
     repeat' (first|(refine gO ?_;intro K hK)|(refine kP ?_;clear hK K)|(refine hK _ _ ?_ ?_<;>clear hK K)|(intro wd hxd;have hS:=Sep.xx hxd)|refine sA ?_|(refine bM ?_ ?_<;>intro hb hc<;>first|exact zxf|(simp only [hb];clear hb))|((with_reducible refine gSt ?_);refine zs2 ?_;intro wb hS)|(refine zcv ?_)|(refine G.cn ?_ ?_<;>intro hc<;>try exact zxf))
     refine G.loop (fun r w'=>∃ i j:Nat,a≤i∧i≤j∧j≤m∧(i=a∨Bef gsc gix (xs.getD (i - 1) default) (xs.getD m default))∧(j=m∨Bef gsc gix (xs.getD m default) (xs.getD j default)) ∧
      r 0=v∧r 2=I m∧r 4=(.func (.func 190) #[] #[])∧r 14=I i∧r 15=I j∧Sep w0 w' (accC v 179 eG xs :: M)) (fun r _=>toN (r 15) - toN (r 14)) ?_ ?_
     ·exact ⟨a,m,Nat.le_refl _,by omega,Nat.le_refl _,.inl rfl,.inl rfl,by exact sf,by exact sf,by exact sf,by exact sf,by exact sf,hS⟩
     ·clear hS
      rintro u wl ⟨i,j,hi,hij,hj,b1,b2,q0,q2,q4,q14,q15,hS⟩ ih
      have hm1:toN (u 14)=i:=by rw [q14];simp [toN]
      have hm2:toN (u 15)=j:=by rw [q15];simp [toN]
      by_cases hl:(i:Int) < j
      ·obtain ⟨h,eh⟩:∃ h,h=(i+j) / 2:=⟨_,rfl⟩
       have fh:((i:Int)+(j:Int)) / 2=(h:Int):=by omega
       have fu:IntKind.u64.wrap ((i:Int)+(j:Int))=(i:Int)+(j:Int):=u64_s zo
       have hcm:∀ w,_:=fun w=>gcmp_spec (xs.getD m default) (xs.getD h default) w (hB.at zo) (hB.at zo)
       have hix:=hp.s h m zo zo zo zo
       by_cases hl2:(xs.getD h default).sc - (xs.getD m default).sc < 0
       ·have hbf:Bef gsc gix (xs.getD m default) (xs.getD h default):=bef_lt (by show (xs.getD h default).sc < (xs.getD m default).sc;omega)
        (have fct:=(a8 @q0 @q2 @q4 @q14 @q15 @shU @fu @fh);repeat' (first|(refine gO ?_;intro K hK)|(refine kP ?_;clear hK K)|(refine hK _ _ ?_ ?_<;>clear hK K)|(intro wd hxd;have hS:=Sep.xx hxd)|refine sA ?_|(refine bM ?_ ?_<;>intro hb hc<;>first|exact zxf|(simp only [hb];clear hb))|((with_reducible refine gSt ?_);refine zs2 ?_;intro wb hS)|(refine zcv ?_)|(refine zcp 190 (hcm _) ?_;intro wb hS)|(refine G.cn ?_ ?_<;>intro hc<;>try exact zxf)))<;>(try clear fct)
        all_goals
         have fct:=(a5 @q0 @q2 @q4 @q14 @q15);refine ih _ _ ⟨i,h,hi,by omega,by omega,b1,.inr hbf,by exact sf,by exact sf,by exact sf,by exact sf,by exact sf,hS⟩ ?_
         rw [hm1,hm2];simp only [push_cast,↓reduceIte,zq1,zq2,zq3,zq4,zq5,toN_i,q0,q2,q4,q14,q15];omega
       ·have hbf:Bef gsc gix (xs.getD h default) (xs.getD m default):=bef_ge (by show ¬ (xs.getD h default).sc < (xs.getD m default).sc;omega) hix
        (have fct:=(a8 @q0 @q2 @q4 @q14 @q15 @shU @fu @fh);repeat' (first|(refine gO ?_;intro K hK)|(refine kP ?_;clear hK K)|(refine hK _ _ ?_ ?_<;>clear hK K)|(intro wd hxd;have hS:=Sep.xx hxd)|refine sA ?_|(refine bM ?_ ?_<;>intro hb hc<;>first|exact zxf|(simp only [hb];clear hb))|((with_reducible refine gSt ?_);refine zs2 ?_;intro wb hS)|(refine zcv ?_)|(refine zcp 190 (hcm _) ?_;intro wb hS)|(refine G.cn ?_ ?_<;>intro hc<;>try exact zxf)))<;>(try clear fct)
        all_goals
         have fct:=(a5 @q0 @q2 @q4 @q14 @q15);refine ih _ _ ⟨h+1,j,by omega,by omega,hj,.inr hbf,b2,by exact sf,by exact sf,by exact sf,by exact sf,by exact sf,hS⟩ ?_
         rw [hm1,hm2];simp only [push_cast,↓reduceIte,zq1,zq2,zq3,zq4,zq5,toN_i,q0,q2,q4,q14,q15];omega
      ·have eij:i=j:=by omega
       subst eij
       (have fct:=(a5 @q0 @q2 @q4 @q14 @q15);repeat' (first|(refine gO ?_;intro K hK)|(refine kP ?_;clear hK K)|(refine hK _ _ ?_ ?_<;>clear hK K)|(intro wd hxd;have hS:=Sep.xx hxd)|refine sA ?_|(refine bM ?_ ?_<;>intro hb hc<;>first|exact zxf|(simp only [hb];clear hb))|((with_reducible refine gSt ?_);refine zs2 ?_;intro wb hS)|(refine zcv ?_)|(refine G.cn ?_ ?_<;>intro hc<;>try exact zxf)))<;>(try clear fct)
       refine G.loop (fun r w'=>∃ (k:Nat) (cur:List Gs),i≤k∧k≤m∧cur.Perm xs∧AtS xs cur (mvDn m k)∧r 0=v∧r 14=I i∧r 17=I k∧Sep w0 w' (accC v 179 eG cur :: M)) (fun r _=>toN (r 17)) ?_ ?_
       ·have fct:=(a5 @q0 @q2 @q4 @q14 @q15);exact ⟨m,xs,by omega,Nat.le_refl _,.refl _,fun k=>by rw [mvDn_self],by exact sf,by exact sf,by exact sf,hS⟩
       ·clear hS q0 q2 q4 q14 q15 ih
        rintro u2 wl2 ⟨k,cur,hk,hkm,hpm,hat,q0,q14,q17,hS⟩ ih
        have hm3:toN (u2 17)=k:=by rw [q17];simp [toN]
        have hcl:=hpm.length_eq
        by_cases hl:(i:Int) < k
        ·obtain ⟨k',ek⟩:∃ k',k'=k - 1:=⟨_,rfl⟩
         have fk:(k:Int) - 1=(k':Int):=by omega
         have ek2:k=k'+1:=by omega
         (have fct:=(a4 @q0 @q14 @q17 @fk);repeat' (first|(refine gO ?_;intro K hK)|(refine kP ?_;clear hK K)|(refine hK _ _ ?_ ?_<;>clear hK K)|(intro wd hxd;have hS:=Sep.xx hxd)|refine sA ?_|(refine bM ?_ ?_<;>intro hb hc<;>first|exact zxf|(simp only [hb];clear hb))|((with_reducible refine gSt ?_);refine zs2 ?_;intro wb hS)|(refine zcv ?_)|(refine zse ?_ (h1:=eG_one _);intro wb hS)|(refine G.cn ?_ ?_<;>intro hc<;>try exact zxf)))<;>(try clear fct)
         all_goals
          have fct:=(a4 @q0 @q14 @q17 @fk);refine ih _ _ ⟨k',swapL cur k k',by omega,by omega,(swapL_perm cur k k' zo zo).trans hpm,by rw [ek2] at hat ⊢;exact dn_step hat zo zo,by exact sf,by exact sf,by exact sf,hS⟩ ?_
          rw [hm3];simp only [push_cast,↓reduceIte,zq1,zq2,zq3,zq4,zq5,toN_i,q0,q14,q17,fk];omega
        ·have ek:k=i:=by omega
         subst ek
         (have fct:=(a3 @q0 @q14 @q17);repeat' (first|(refine gO ?_;intro K hK)|(refine kP ?_;clear hK K)|(refine hK _ _ ?_ ?_<;>clear hK K)|(intro wd hxd;have hS:=Sep.xx hxd)|refine sA ?_|(refine bM ?_ ?_<;>intro hb hc<;>first|exact zxf|(simp only [hb];clear hb))|((with_reducible refine gSt ?_);refine zs2 ?_;intro wb hS)|(refine zcv ?_)|(refine G.cn ?_ ?_<;>intro hc<;>try exact zxf)))<;>(try clear fct)
         all_goals
          (have fct:=(a3 @q0 @q14 @q17);refine rM ?_)
          exact ⟨cur,⟨Kept.of_at hpm hat fun t ht=>by unfold mvDn;rw [if_neg zo,if_neg zo],dn_ord hp.l hat hi hkm b1 b2⟩,hS⟩
    ·rw [sym_eqA]
     obtain ⟨mid,hmid⟩:∃ mid,mid=(a+b) / 2:=⟨_,rfl⟩
     have fm:((a:Int)+(b:Int)) / 2=(mid:Int):=by omega
     have fu:IntKind.u64.wrap ((a:Int)+(b:Int))=(a:Int)+(b:Int):=u64_s zo
     have hx:∀ {n:Nat} {ρ:Fr} {w:World} {lo hi:Nat} {R:Value→World→Prop},_→_→_→_→_→_→_→_→_→_→_→_→_→_→_→_→_→_→_:=fun {n ρ w lo hi R}=>sym_x (n:=n) (ρ:=ρ) (w:=w) (lo:=lo) (hi:=hi) (R:=R) (v:=v) (M:=M) hN (a:=a) (b:=b) zo hp zo zo hmid
     generalize symX symT=T at *
     unfold symA c209
     dsimp only
     by_cases hmm:mid < m
     ·obtain ⟨lo,el⟩:∃ lo,lo=mid+m - b:=⟨_,rfl⟩
      have fl:(mid:Int)+(m:Int) - (b:Int)=(lo:Int):=by omega
      (have fct:=(a4 @shU @fu @fm @fl);repeat' (first|(refine gO ?_;intro K hK)|(refine kP ?_;clear hK K)|(refine hK _ _ ?_ ?_<;>clear hK K)|(intro wd hxd;have hS:=Sep.xx hxd)|refine sA ?_|(refine bM ?_ ?_<;>intro hb hc<;>first|exact zxf|(simp only [hb];clear hb))|((with_reducible refine gSt ?_);refine zs2 ?_;intro wb hS)|(refine zcv ?_)|(refine G.cn ?_ ?_<;>intro hc<;>try exact zxf)))<;>(try clear fct)
      all_goals
       refine hx (lo:=lo) (hi:=mid) zo zo zo zo zo (.inr zo) (.inr rfl) ?_ ?_ ?_ ?_ ?_ ?_ ?_ ?_ ?_ hS hB fun ys w' hy hS=>⟨rfl,ys,hy,hS⟩
       all_goals simp only [push_cast,↓reduceIte,zq1,zq2,zq3,zq4,zq5,fm,fl]
     ·(have fct:=(a3 @shU @fu @fm);repeat' (first|(refine gO ?_;intro K hK)|(refine kP ?_;clear hK K)|(refine hK _ _ ?_ ?_<;>clear hK K)|(intro wd hxd;have hS:=Sep.xx hxd)|refine sA ?_|(refine bM ?_ ?_<;>intro hb hc<;>first|exact zxf|(simp only [hb];clear hb))|((with_reducible refine gSt ?_);refine zs2 ?_;intro wb hS)|(refine zcv ?_)|(refine G.cn ?_ ?_<;>intro hc<;>try exact zxf)))<;>(try clear fct)
      all_goals
       refine hx (lo:=a) (hi:=m) zo zo zo zo zo (.inl rfl) (.inl rfl) ?_ ?_ ?_ ?_ ?_ ?_ ?_ ?_ ?_ hS hB fun ys w' hy hS=>⟨rfl,ys,hy,hS⟩
       all_goals simp only [push_cast,↓reduceIte,zq1,zq2,zq3,zq4,zq5,fm]
def c203l1:MC:=(Z (Z (yr [qm 11 8,qm 12 1,qq 13 (yb .leq (Y 11) (Y 12))]) (yd (Y 13) yk (.exit 0))) (.blk 1 (Z (yr [qm 14 0,qm 15 7,qm 16 8,qm 17 2,qq 18 (yl 208 [(Y 14),(Y 15),(Y 16),(Y 17)])]) (Z (yr [qm 19 8,qm 7 19]) (yr [qm 20 8,qm 21 6,qq 22 (yb .add (Y 20) (Y 21)),qm 8 22])))))
def c203l2:MC:=(Z (Z (yr [qm 33 8,qm 34 1,qq 35 (yb .leq (Y 33) (Y 34))]) (yd (Y 35) yk (.exit 4))) (.blk 5 (Z (yr [qm 36 0,qm 37 7,qm 38 7,qm 39 6,qq 40 (yb .add (Y 38) (Y 39)),qm 41 8,qm 42 2,qq 43 (yl 209 [(Y 36),(Y 37),(Y 40),(Y 41),(Y 42)])]) (Z (yr [qm 44 8,qm 7 44]) (yr [qm 45 8,qm 46 6,qq 47 (yb .mul (ki 2) (Y 46)),qq 48 (yb .add (Y 45) (Y 47)),qm 8 48])))))
def c203l3:MC:=(Z (Z (yr [qm 28 6,qm 29 1,qq 30 (yb .lss (Y 28) (Y 29))]) (yd (Y 30) yk (.exit 2))) (.blk 3 (Z (yr [qm 31 6,qq 32 (yb .mul (ki 2) (Y 31)),qq 7 (.mv (ki 0)),qm 8 32]) (Z (.blk 4 (.loop c203l2)) (Z (Z (yr [qm 49 7,qm 50 6,qq 51 (yb .add (Y 49) (Y 50)),qm 9 51]) (Z (yr [qm 52 9,qm 53 1,qq 54 (yb .lss (Y 52) (Y 53))]) (yd (Y 54) (yr [qm 55 0,qm 56 7,qm 57 9,qm 58 1,qm 59 2,qq 60 (yl 209 [(Y 55),(Y 56),(Y 57),(Y 58),(Y 59)])]) yk))) (yr [qm 61 6,qq 62 (yb .mul (Y 61) (ki 2)),qm 6 62]))))))
def c203:MC:=(Z (yr [qq 6 (.mv (ki 20))]) (Z (yr [qm 10 6,qq 7 (.mv (ki 0)),qm 8 10]) (Z (.blk 0 (.loop c203l1)) (Z (yr [qm 23 0,qm 24 7,qm 25 1,qm 26 2,qq 27 (yl 208 [(Y 23),(Y 24),(Y 25),(Y 26)])]) (.blk 2 (.loop c203l3))))))
set_option maxHeartbeats 1000000 in
theorem stable_spec (hS:Sep w0 w (accC v 179 eG xs :: M)) (hB:BdG xs) (hl:xs.length=24) (hix:∀ i j,i < j→j < 24→gix (xs.getD i default) < gix (xs.getD j default)) :
 Ret Tryz.prog 203 #[v,I 24,(.func (.func 190) #[] #[])] w fun res w'=>res=.tuple #[]∧∃ ys,MgPost gsc gix 0 24 xs ys∧Sep w0 w' (accC v 179 eG ys :: M):=by
 refine En 63 c203 Tryz.func203 ?_
 have c1:∀ {w},Sep w0 w (accC v 179 eG xs :: M)→Ret Tryz.prog 208 #[v,I 0,I 20,(.func (.func 190) #[] #[])] w fun res w'=>res=.tuple #[]∧∃ ys,MgPost gsc gix 0 20 xs ys∧Sep w0 w' (accC v 179 eG ys :: M) :=
  fun {w} h=>ins_spec h hB 0 20 zo zo fun i j _ h2 h3=>hix i j h2 zo
 repeat' (first|refine G.reg fun K hK=>?_|(refine kM ?_;clear hK K)|refine sA ?_|(refine G.cn ?_ ?_<;>intro hc<;>try exact zxf))
 refine G.loop0 ?_
 repeat' (first|refine G.reg fun K hK=>?_|(refine kM ?_;clear hK K)|refine sA ?_|(refine zco 208 (c1 hS) ?_;rintro vb wb ⟨rfl,y1,hy1,hS⟩)|(refine G.cn ?_ ?_<;>intro hc<;>try exact zxf))
 refine G.loop1 ?_
 have l1:=hy1.kept.len
 have o1:∀ k,20≤k→y1.getD k default=xs.getD k default:=fun k hk=>hy1.kept.out k (.inr hk)
 have c2:∀ {w},Sep w0 w (accC v 179 eG y1 :: M)→Ret Tryz.prog 208 #[v,I 20,I 24,(.func (.func 190) #[] #[])] w fun res w'=>res=.tuple #[]∧∃ ys,MgPost gsc gix 20 24 y1 ys∧Sep w0 w' (accC v 179 eG ys :: M) :=
  fun {w} h=>ins_spec h (hB.perm hy1.kept.perm) 20 24 zo zo fun i j h1 h2 h3=>by rw [o1 i h1,o1 j zo];exact hix i j h2 h3
 repeat' (first|refine G.reg fun K hK=>?_|(refine kM ?_;clear hK K)|refine sA ?_|(refine zco 208 (c2 hS) ?_;rintro vb wb ⟨rfl,y2,hy2,hS⟩)|(refine G.cn ?_ ?_<;>intro hc<;>try exact zxf))
 refine G.loop0 ?_
 have l2:=hy2.kept.len
 have c3:∀ {w},Sep w0 w (accC v 179 eG y2 :: M)→Ret Tryz.prog 209 #[v,I 0,I 20,I 24,(.func (.func 190) #[] #[])] w fun res w'=>res=.tuple #[]∧∃ ys,MgPost gsc gix 0 24 y2 ys∧Sep w0 w' (accC v 179 eG ys :: M) :=
  fun {w} h=>sym_ok v w0 M 25 w y2 0 20 24 zo h ((hB.perm hy1.kept.perm).perm hy2.kept.perm) ⟨by omega,by omega,by omega,hy1.ord.same fun k _ hk=>hy2.kept.out k (.inl hk),hy2.ord,fun i j _ h2 h3 h4=>by
   rw [hy2.kept.out i (.inl h2)]
   obtain ⟨i',hi',e1⟩:=hy1.kept.src zo zo i ⟨by omega,h2⟩
   obtain ⟨j',hj',e2⟩:=hy2.kept.src zo zo j ⟨h3,h4⟩
   rw [e1,e2,o1 j' hj'.1]
   exact hix i' j' zo hj'.2⟩ zo zo
 repeat' (first|refine G.reg fun K hK=>?_|(refine kM ?_;clear hK K)|refine sA ?_|(refine G.cn ?_ ?_<;>intro hc<;>try exact zxf))
 refine G.loop0 ?_
 repeat' (first|refine G.reg fun K hK=>?_|(refine kM ?_;clear hK K)|refine sA ?_|(refine zco 209 (c3 hS) ?_;rintro vb wb ⟨rfl,y3,hy3,hS⟩)|(refine G.cn ?_ ?_<;>intro hc<;>try exact zxf))
 refine G.loop1 ?_
 repeat' (first|refine G.reg fun K hK=>?_|(refine kM ?_;clear hK K)|refine sA ?_|(refine G.cn ?_ ?_<;>intro hc<;>try exact zxf))
 refine rM ?_
 exact ⟨y3,⟨((hy1.kept.wide (Nat.le_refl _) zo).trans (hy2.kept.wide (Nat.zero_le _) (Nat.le_refl _))).trans hy3.kept,hy3.ord⟩,hS⟩
def c189:MC:=(yr [qm 4 0,qm 5 0,qq 6 (.len (Y 5)),qm 7 1,qq 8 (yl 203 [(Y 4),(Y 6),(Y 7)])])
theorem sortS_spec (hS:Sep w0 w (accC v 179 eG xs :: M)) (hB:BdG xs) (hl:xs.length=24) (hix:∀ i j,i < j→j < 24→gix (xs.getD i default) < gix (xs.getD j default)) :
 Ret Tryz.prog 189 #[v,(.func (.func 190) #[] #[])] w fun res w'=>res=.tuple #[]∧∃ ys,MgPost gsc gix 0 24 xs ys∧Sep w0 w' (accC v 179 eG ys :: M):=by
 refine En 9 c189 Tryz.func189 ?_
 have fl:(xs.length:Int)=24:=by omega
 have hcc:∀ {w},Sep w0 w (accC v 179 eG xs :: M)→_:=fun {w} h=>stable_spec (w:=w) h hB hl hix
 (have fct:=@fl;repeat' (first|refine G.reg fun K hK=>?_|(refine kM ?_;clear hK K)|refine sA ?_|(refine zco 203 (hcc hS) ?_;rintro vb wb ⟨rfl,ys,hy,hS⟩)))<;>(try clear fct)
 refine rM ?_
 exact ⟨ys,hy,hS⟩
end
end Go.Proofs.YtllanbmpacgigaaGreatDoor
