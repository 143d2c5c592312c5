/- Texts of the proof, joined. -/
import Derived.Test.YtllanbmpacgigaaGreatDoorIH06
namespace Go.Proofs.YtllanbmpacgigaaGreatDoor
open Operand renaming tmp→Y,const→yc
open MC renaming seq→Z,reg→yr,skip→yk,cond→yd
open MO renaming call→yl,bin→yb
open Nat renaming reduceAdd→zq1,reduceLeDiff→zq2,reduceEqDiff→zq3,reduceLT→zq4
open Int renaming reduceToNat→zq5
set_option linter.unusedSimpArgs false
set_option linter.unusedVariables false
attribute [local irreducible] SemK UnitK StK AlcK BslK CallK CallV Instr.box Builtin.append_ Instr.makeSlice Instr.makeMap Instr.lookup Instr.mapUpdate Instr.sliceAt convert
open Go.RowKit
def eP:Enc (Nat×Nat):=⟨2,fun x=>[I x.1,I x.2],fun _=>rfl⟩
instance : EncSz eP 2 := ⟨rfl⟩
theorem eP_f (x:Nat×Nat):eP.f x=[I x.1,I x.2]:=rfl
attribute [push_cast] eP_f
section
variable {d:Dl} {s:Str} {w w0:World} {R:Rs} {SP:List (Nat×Nat)}
structure At (d:Dl) (s:Str) (R:Rs) (SP:List (Nat×Nat)) (p:Nat) (st:Int) (fr to:Nat) (sp:List (Nat×Nat)) (q:Int) (m:Mk) (acc:List (List Str×Nat)):Prop where
 run:R=(wrun d wideL q st m p (s.drop p)).pre acc
 sps:SP=sp++spW d wideL q st m fr to p (s.drop p)
 al:acc.length=sp.length
 pl:p≤s.length
theorem At.step {p:Nat} {st:Int} {fr to:Nat} {sp:List (Nat×Nat)} {q:Int} {m:Mk} {acc:List (List Str×Nat)} (h:At d s R SP p st fr to sp q m acc) (hp:p < s.length) (hn:sp.length < SP.length) :
 (scM d st (s.getD p 0)).2.2=0∧∃ q' m' acc',At d s R SP (p+1) (scM d st (s.getD p 0)).2.1 (if (scM d st (s.getD p 0)).1.b=true then p else fr) (if (scM d st (s.getD p 0)).1.l=true then p else to)
  (if (scM d st (s.getD p 0)).1.r=true then sp++[(if (scM d st (s.getD p 0)).1.b=true then p else fr,if (scM d st (s.getD p 0)).1.l=true then p else to)] else sp) q' m' acc':=by
 obtain ⟨h1,h2,h3,h4⟩:=h
 rw [dropB06 s p zo,wrun_cons] at h1
 rw [dropB06 s p zo,spW] at h2
 cases he:stepW d wideL q st m (s.getD p 0) with
 | error k =>
   rw [he] at h2
   simp only [List.append_nil] at h2
   rw [h2] at hn;omega
 | ok x =>
   rw [he] at h1 h2
   simp only at h1 h2
   obtain ⟨e0,e1,e2⟩:=stepW_sc he
   refine ⟨e0,x.1,x.2.2.1,acc++oneR x.2.2.2 p,?_,?_,?_,by omega⟩
   ·rw [h1,←e1];simp only [pre_pre]
   ·rw [h2,←e1,e2]
    cases hr:(scM d st (s.getD p 0)).1.r<;>simp
   ·rw [←e2]
    cases hx:x.2.2.2<;>simp [oneR,h3]
theorem At.fault {p:Nat} {st:Int} {fr to:Nat} {sp:List (Nat×Nat)} {q:Int} {m:Mk} {acc:List (List Str×Nat)} (h:At d s R SP p st fr to sp q m acc) (hn:sp.length < SP.length) (hk:R.k≠0):p < R.a:=by
 obtain ⟨h1,h2,h3,h4⟩:=h
 have hl:=spW_len d wideL (s.drop p) q st m fr to p
 have hs:=congrArg List.length h2
 rw [List.length_append,hl] at hs
 obtain ⟨g1,g2⟩:=wrun_ends d wideL (s.drop p) q st m p
 have hRk:R.k=(wrun d wideL q st m p (s.drop p)).k:=by rw [h1];rfl
 have hRa:R.a=(wrun d wideL q st m p (s.drop p)).a:=by rw [h1];rfl
 rw [hRa]
 match hrs:(wrun d wideL q st m p (s.drop p)).rs with
 | []=>rw [hrs] at hs;simp at hs;omega
 | x :: r =>
   have:=g1 x (by rw [hrs];simp)
   have:=this.2.2 (by rw [←hRk];exact hk)
   omega
theorem At.last {p:Nat} {st:Int} {fr to:Nat} {sp:List (Nat×Nat)} {q:Int} {m:Mk} {acc:List (List Str×Nat)} (h:At d s R SP p st fr to sp q m acc) (hp:s.length≤p) (hn:sp.length < SP.length):SP=sp++[(fr,s.length)]:=by
 obtain ⟨h1,h2,h3,h4⟩:=h
 rw [List.drop_eq_nil_of_le hp,spW] at h2
 split at h2
 ·rw [h2,show p=s.length by omega]
 ·rw [h2] at hn;simp at hn
theorem At.start (d:Dl) (s:Str):At d s (parM d wideL s) (spM d s) (s.length - (stripM s).length) 0 0 0 [] 0 {} []:=by
 obtain ⟨h1,h2⟩:=strip_drop s
 exact ⟨by rw [←h1];rfl,by rw [←h1];rfl,rfl,by omega⟩
def c101l1:MC:=(Z (Z (yr [qm 28 14,qm 29 2,qq 30 (yb .lss (Y 28) (Y 29)),qm 31 30,qmt 31 32 11,qt 31 33 (.len (Y 32)),qmt 31 34 3,qt 31 35 (yb .lss (Y 33) (Y 34)),qq 36 (.pick (Y 31) (Y 35) (kb false))]) (yd (Y 36) yk (.exit 0))) (Z (.blk 1 (Z (.drg [qq 40 (.ld (.some 3) (Y 4)),qm 41 13,qm 42 1,qm 43 14,qq 44 (.idxS (Y 42) (Y 43)),qq 45 (yl 130 [(Y 40),(Y 41),(Y 44)]),qm 39 45,qq 46 (.ext 0 (Y 39)),qq 47 (.ext 1 (Y 39)),qq 48 (.ext 2 (Y 39)),qq 15 (.alc 197 [(.bool false),(.bool false),(.bool false),(.bool false),(.bool false),(.int .u8 0)]),qn (.st 6 (Y 15) (Y 46)),qm 16 47,qm 17 48] (.some (.br [qm 41 13,qm 42 1,qm 43 14,qq 44 (.idxS (Y 42) (Y 43))] (.br [qq 40 (.ld (.some 3) (Y 4))] (.leaf [qq 45 (yl 130 [(Y 40),(Y 41),(Y 44)]),qm 39 45,qq 46 (.ext 0 (Y 39)),qq 47 (.ext 1 (Y 39)),qq 48 (.ext 2 (Y 39)),qq 15 (.alc 197 [(.bool false),(.bool false),(.bool false),(.bool false),(.bool false),(.int .u8 0)]),qn (.st 6 (Y 15) (Y 46)),qm 16 47,qm 17 48]) (.leaf [qq 15 (.alc 197 [(.bool false),(.bool false),(.bool false),(.bool false),(.bool false),(.int .u8 0)]),qq 45 (yl 130 [(Y 40),(Y 41),(Y 44)]),qm 39 45,qq 46 (.ext 0 (Y 39)),qq 47 (.ext 1 (Y 39)),qq 48 (.ext 2 (Y 39)),qn (.st 6 (Y 15) (Y 46)),qm 16 47,qm 17 48])) (.leaf [qq 15 (.alc 197 [(.bool false),(.bool false),(.bool false),(.bool false),(.bool false),(.int .u8 0)]),qq 40 (.ld (.some 3) (Y 4)),qq 45 (yl 130 [(Y 40),(Y 41),(Y 44)]),qm 39 45,qq 46 (.ext 0 (Y 39)),qq 47 (.ext 1 (Y 39)),qq 48 (.ext 2 (Y 39)),qn (.st 6 (Y 15) (Y 46)),qm 16 47,qm 17 48])))) (Z (Z (yr [qm 49 17,qq 50 (yb .neq (Y 49) (ki 0))]) (yd (Y 50) (.exit 0) yk)) (Z (yr [qm 51 16,qm 13 51]) (Z (Z (yr [qq 52 (.fad 0 (Y 15)),qq 53 (.ld none (Y 52))]) (yd (Y 53) (yr [qm 54 14,qq 55 (.fad 0 (Y 12)),qn (.st 1 (Y 55) (Y 54))]) yk)) (Z (Z (yr [qq 56 (.fad 3 (Y 15)),qq 57 (.ld none (Y 56))]) (yd (Y 57) (yr [qm 58 14,qq 59 (.fad 1 (Y 12)),qn (.st 1 (Y 59) (Y 58))]) yk)) (Z (yr [qq 60 (.fad 4 (Y 15)),qq 61 (.ld none (Y 60))]) (yd (Y 61) (yr [qm 62 11,qq 63 (.ld (.some 2) (Y 12)),qq 64 (.bsl 161 [(.int .i64 0),(.int .i64 0)] 1 [⟨0,⟨2,(Y 63)⟩⟩]),qq 65 (.raw (.call ⟨(.builtin .append),#[(Y 62),(Y 64)],#[154,154]⟩) 154),qm 11 65]) yk)))))))) (yr [qm 37 14,qq 38 (yb .add (Y 37) (ki 1)),qm 14 38])))
def c101:MC:=(Z (yr [qq 4 (.raw (.box 39 (Y 0)) 0),qq 8 (.mv (yc (.slice none 0 0)))]) (Z (yr [qm 19 1,qq 20 (yl 87 [(Y 19)]),qm 18 20,qq 21 (.ext 0 (Y 18)),qq 22 (.ext 1 (Y 18)),qm 9 21,qm 10 22]) (Z (yr [qq 11 (.mv (yc (.slice none 0 0)))]) (Z (yr [qq 12 (.alc 161 [(.int .i64 0),(.int .i64 0)])]) (Z (yr [qq 13 (.mv (ki 0))]) (Z (Z (yr [qm 23 1,qq 24 (.lenS (Y 23)),qm 25 9,qq 26 (.lenS (Y 25)),qq 27 (yb .sub (Y 24) (Y 26)),qm 14 27]) (.blk 0 (.loop c101l1))) (Z (Z (yr [qm 66 11,qq 67 (.len (Y 66)),qm 68 3,qq 69 (yb .lss (Y 67) (Y 68))]) (yd (Y 69) (Z (yr [qm 70 2,qq 71 (.fad 1 (Y 12)),qn (.st 1 (Y 71) (Y 70))]) (yr [qm 72 11,qq 73 (.ld (.some 2) (Y 12)),qq 74 (.bsl 161 [(.int .i64 0),(.int .i64 0)] 1 [⟨0,⟨2,(Y 73)⟩⟩]),qq 75 (.raw (.call ⟨(.builtin .append),#[(Y 72),(Y 74)],#[154,154]⟩) 154),qm 11 75])) yk)) (Z (yr [qm 76 11,qm 8 76]) .ret))))))))
set_option maxHeartbeats 1000000 in
theorem spans_spec (d:Dl) (s:Str) (hl:s.length≤900000) {e:Int} (he:e=if (parM d wideL s).k=0 then (s.length:Int) else (parM d wideL s).a) (w:World) :
 Ret Tryz.prog 101 #[(.agg #[U d.dl,U d.q,I d.e]),S s,I e,I ((parM d wideL s).rs.length:Nat)] w fun res w'=>Sep w w' [accC res 161 eP (spM d s)]:=by
 refine En 77 c101 Tryz.func101 ?_
 have hS:=Sep.start w
 have hst:=At.start d s
 have hsl:=(strip_drop s).2
 have hlen:=spM_len d s
 have hends:=wrun_ends d wideL (stripM s) 0 0 {} (s.length - (stripM s).length)
 have epar:wrun d wideL 0 0 {} (s.length - (stripM s).length) (stripM s)=parM d wideL s:=rfl
 rw [epar] at hends
 have hRl:=parM_len d wideL s
 rw [←hlen]
 generalize parM d wideL s=R at *
 generalize spM d s=SP at *
 obtain ⟨g1,g2⟩:=hends
 have hel:0≤e∧e≤s.length:=by
  by_cases hk:R.k=0
  ·rw [if_pos hk] at he;omega
  ·rw [if_neg hk] at he;have:=g2 hk;omega
 generalize hoff:s.length - (stripM s).length=off at *
 have hI:(s.length:Int) - ((stripM s).length:Int)=off:=by omega
 (have fct:=@hI;repeat' (first|(refine gO ?_;intro K hK)|(refine kP ?_;clear hK K)|(refine hK _ _ ?_ ?_<;>clear hK K)|(intro wd hxd;have hS:=Sep.xx hxd)|refine sA ?_|(refine bM ?_ ?_<;>intro hb hc<;>first|exact zxf|(simp only [hb];clear hb))|((first|refine zalc ?_|refine zbsl ?_|((with_reducible refine gBox ?_);refine zbox ?_));intro gb wb hS)|((with_reducible refine gSt ?_);refine zs2 ?_;intro wb hS)|(refine zcp 87 (strip_spec s _ zo) ?_;intro wb hS)|(refine G.cn ?_ ?_<;>intro hc<;>try exact zxf)))<;>(try clear fct)
 rename_i g4 _ _ _ _
 refine G.loop (fun r w'=>∃ (g4 g12 p:Nat) (st:Int) (fr to:Nat) (sp:List (Nat×Nat)) (q:Int) (m:Mk) (acc:List (List Str×Nat)) (lv:Value),
  Sep w w' [boxC g12 161 [I fr,I to],boxC g4 39 [U d.dl,U d.q,I d.e],accC lv 161 eP sp]∧r 4=.pointer (some ⟨g4,0,none⟩)∧r 12=.pointer (some ⟨g12,0,none⟩)∧r 1=S s∧r 2=I e∧r 3=I SP.length∧r 11=lv∧r 13=I st∧r 14=I p ∧
  At d s R SP p st fr to sp q m acc∧sp.length≤SP.length) (fun r _=>s.length - toN (r 14)) ?_ ?_
 ·have hS:=hS.nil 161 eP
  have fct:=@hI;refine ⟨_,_,off,0,0,0,[],0,{},[],_,Sep.sub hS (.c zr (.c zr (.c zr .n))),by exact sf,by exact sf,by exact sf,by exact sf,by exact sf,by exact sf,by exact sf,by exact sf,hst,by simp⟩
 ·clear hS hst
  rintro u wl ⟨g4,g12,p,st,fr,to,sp,q,m,acc,lv,hS,q4,q12,q1,q2,q3,q11,q13,q14,hat,hsp⟩ ih
  have hm:toN (u 14)=p:=by rw [q14];simp [toN]
  have hpl:=hat.pl
  by_cases hgo:(p:Int) < e∧(sp.length:Int) < SP.length
  ·obtain ⟨hp,hn⟩:=hgo
   have hp':p < s.length:=by omega
   obtain ⟨e0,q',m',acc',hat'⟩:=hat.step hp' zo
   have hbb:=(s.getD p 0).toNat_lt
   cases hb:(scM d st (s.getD p 0)).1.b<;>cases hl':(scM d st (s.getD p 0)).1.l<;>cases hr:(scM d st (s.getD p 0)).1.r<;>rw [hb,hl',hr] at hat'<;>simp only [if_true,if_false,Bool.false_eq_true] at hat'
   ·(((have fct:=(a12 @q4 @q12 @q1 @q2 @q3 @q11 @q13 @q14 @e0 @hb @hl' @hr);repeat' (first|(refine gO ?_;intro K hK)|(refine kP ?_;clear hK K)|(refine hK _ _ ?_ ?_<;>clear hK K)|(intro wd hxd;have hS:=Sep.xx hxd)|refine sA ?_|(refine bM ?_ ?_<;>intro hb hc<;>first|exact zxf|(simp only [hb];clear hb))|((first|refine zalc ?_|refine zbsl ?_|((with_reducible refine gBox ?_);refine zbox ?_));intro gb wb hS)|((with_reducible refine gSt ?_);refine zs2 ?_;intro wb hS)|(refine zcp 130 (scStep_spec d st _ _) ?_;intro wb hS)|(refine zap (y:=(fr,to)) ?_ (hy:=by rfl);intro vb wb hS)|(refine G.cn ?_ ?_<;>intro hc<;>try exact zxf)))<;>(try clear fct));all_goals (refine ih _ _ ⟨g4,g12,p+1,_,fr,to,_,q',m',acc',_,(Sep.sub hS zw),by simp only [push_cast,↓reduceIte,zq1,zq2,zq3,zq4,zq5,q4,q12,q1,q2,q3,q11,q13,q14],by simp only [push_cast,↓reduceIte,zq1,zq2,zq3,zq4,zq5,q4,q12,q1,q2,q3,q11,q13,q14],by simp only [push_cast,↓reduceIte,zq1,zq2,zq3,zq4,zq5,q4,q12,q1,q2,q3,q11,q13,q14],by simp only [push_cast,↓reduceIte,zq1,zq2,zq3,zq4,zq5,q4,q12,q1,q2,q3,q11,q13,q14],by simp only [push_cast,↓reduceIte,zq1,zq2,zq3,zq4,zq5,q4,q12,q1,q2,q3,q11,q13,q14],by simp only [push_cast,↓reduceIte,zq1,zq2,zq3,zq4,zq5,q4,q12,q1,q2,q3,q11,q13,q14]<;>rfl,by simp only [push_cast,↓reduceIte,zq1,zq2,zq3,zq4,zq5,q4,q12,q1,q2,q3,q11,q13,q14]<;>rfl,by simp only [push_cast,↓reduceIte,zq1,zq2,zq3,zq4,zq5,q4,q12,q1,q2,q3,q11,q13,q14]<;>rfl,hat',?_⟩ ?_;(first|omega|(simp;omega));(rw [hm];simp only [push_cast,↓reduceIte,zq1,zq2,zq3,zq4,zq5,toN_i,q14];omega)))
   ·(((have fct:=(a12 @q4 @q12 @q1 @q2 @q3 @q11 @q13 @q14 @e0 @hb @hl' @hr);repeat' (first|(refine gO ?_;intro K hK)|(refine kP ?_;clear hK K)|(refine hK _ _ ?_ ?_<;>clear hK K)|(intro wd hxd;have hS:=Sep.xx hxd)|refine sA ?_|(refine bM ?_ ?_<;>intro hb hc<;>first|exact zxf|(simp only [hb];clear hb))|((first|refine zalc ?_|refine zbsl ?_|((with_reducible refine gBox ?_);refine zbox ?_));intro gb wb hS)|((with_reducible refine gSt ?_);refine zs2 ?_;intro wb hS)|(refine zcp 130 (scStep_spec d st _ _) ?_;intro wb hS)|(refine zap (y:=(fr,to)) ?_ (hy:=by rfl);intro vb wb hS)|(refine G.cn ?_ ?_<;>intro hc<;>try exact zxf)))<;>(try clear fct));all_goals (refine ih _ _ ⟨g4,g12,p+1,_,fr,to,_,q',m',acc',_,(Sep.sub hS zw),by simp only [push_cast,↓reduceIte,zq1,zq2,zq3,zq4,zq5,q4,q12,q1,q2,q3,q11,q13,q14],by simp only [push_cast,↓reduceIte,zq1,zq2,zq3,zq4,zq5,q4,q12,q1,q2,q3,q11,q13,q14],by simp only [push_cast,↓reduceIte,zq1,zq2,zq3,zq4,zq5,q4,q12,q1,q2,q3,q11,q13,q14],by simp only [push_cast,↓reduceIte,zq1,zq2,zq3,zq4,zq5,q4,q12,q1,q2,q3,q11,q13,q14],by simp only [push_cast,↓reduceIte,zq1,zq2,zq3,zq4,zq5,q4,q12,q1,q2,q3,q11,q13,q14],by simp only [push_cast,↓reduceIte,zq1,zq2,zq3,zq4,zq5,q4,q12,q1,q2,q3,q11,q13,q14]<;>rfl,by simp only [push_cast,↓reduceIte,zq1,zq2,zq3,zq4,zq5,q4,q12,q1,q2,q3,q11,q13,q14]<;>rfl,by simp only [push_cast,↓reduceIte,zq1,zq2,zq3,zq4,zq5,q4,q12,q1,q2,q3,q11,q13,q14]<;>rfl,hat',?_⟩ ?_;(first|omega|(simp;omega));(rw [hm];simp only [push_cast,↓reduceIte,zq1,zq2,zq3,zq4,zq5,toN_i,q14];omega)))
   ·(((have fct:=(a12 @q4 @q12 @q1 @q2 @q3 @q11 @q13 @q14 @e0 @hb @hl' @hr);repeat' (first|(refine gO ?_;intro K hK)|(refine kP ?_;clear hK K)|(refine hK _ _ ?_ ?_<;>clear hK K)|(intro wd hxd;have hS:=Sep.xx hxd)|refine sA ?_|(refine bM ?_ ?_<;>intro hb hc<;>first|exact zxf|(simp only [hb];clear hb))|((first|refine zalc ?_|refine zbsl ?_|((with_reducible refine gBox ?_);refine zbox ?_));intro gb wb hS)|((with_reducible refine gSt ?_);refine zs2 ?_;intro wb hS)|(refine zcp 130 (scStep_spec d st _ _) ?_;intro wb hS)|(refine zap (y:=(fr,p)) ?_ (hy:=by rfl);intro vb wb hS)|(refine G.cn ?_ ?_<;>intro hc<;>try exact zxf)))<;>(try clear fct));all_goals (refine ih _ _ ⟨g4,g12,p+1,_,fr,p,_,q',m',acc',_,(Sep.sub hS zw),by simp only [push_cast,↓reduceIte,zq1,zq2,zq3,zq4,zq5,q4,q12,q1,q2,q3,q11,q13,q14],by simp only [push_cast,↓reduceIte,zq1,zq2,zq3,zq4,zq5,q4,q12,q1,q2,q3,q11,q13,q14],by simp only [push_cast,↓reduceIte,zq1,zq2,zq3,zq4,zq5,q4,q12,q1,q2,q3,q11,q13,q14],by simp only [push_cast,↓reduceIte,zq1,zq2,zq3,zq4,zq5,q4,q12,q1,q2,q3,q11,q13,q14],by simp only [push_cast,↓reduceIte,zq1,zq2,zq3,zq4,zq5,q4,q12,q1,q2,q3,q11,q13,q14],by simp only [push_cast,↓reduceIte,zq1,zq2,zq3,zq4,zq5,q4,q12,q1,q2,q3,q11,q13,q14]<;>rfl,by simp only [push_cast,↓reduceIte,zq1,zq2,zq3,zq4,zq5,q4,q12,q1,q2,q3,q11,q13,q14]<;>rfl,by simp only [push_cast,↓reduceIte,zq1,zq2,zq3,zq4,zq5,q4,q12,q1,q2,q3,q11,q13,q14]<;>rfl,hat',?_⟩ ?_;(first|omega|(simp;omega));(rw [hm];simp only [push_cast,↓reduceIte,zq1,zq2,zq3,zq4,zq5,toN_i,q14];omega)))
   ·(((have fct:=(a12 @q4 @q12 @q1 @q2 @q3 @q11 @q13 @q14 @e0 @hb @hl' @hr);repeat' (first|(refine gO ?_;intro K hK)|(refine kP ?_;clear hK K)|(refine hK _ _ ?_ ?_<;>clear hK K)|(intro wd hxd;have hS:=Sep.xx hxd)|refine sA ?_|(refine bM ?_ ?_<;>intro hb hc<;>first|exact zxf|(simp only [hb];clear hb))|((first|refine zalc ?_|refine zbsl ?_|((with_reducible refine gBox ?_);refine zbox ?_));intro gb wb hS)|((with_reducible refine gSt ?_);refine zs2 ?_;intro wb hS)|(refine zcp 130 (scStep_spec d st _ _) ?_;intro wb hS)|(refine zap (y:=(fr,p)) ?_ (hy:=by rfl);intro vb wb hS)|(refine G.cn ?_ ?_<;>intro hc<;>try exact zxf)))<;>(try clear fct));all_goals (refine ih _ _ ⟨g4,g12,p+1,_,fr,p,_,q',m',acc',_,(Sep.sub hS zw),by simp only [push_cast,↓reduceIte,zq1,zq2,zq3,zq4,zq5,q4,q12,q1,q2,q3,q11,q13,q14],by simp only [push_cast,↓reduceIte,zq1,zq2,zq3,zq4,zq5,q4,q12,q1,q2,q3,q11,q13,q14],by simp only [push_cast,↓reduceIte,zq1,zq2,zq3,zq4,zq5,q4,q12,q1,q2,q3,q11,q13,q14],by simp only [push_cast,↓reduceIte,zq1,zq2,zq3,zq4,zq5,q4,q12,q1,q2,q3,q11,q13,q14],by simp only [push_cast,↓reduceIte,zq1,zq2,zq3,zq4,zq5,q4,q12,q1,q2,q3,q11,q13,q14],by simp only [push_cast,↓reduceIte,zq1,zq2,zq3,zq4,zq5,q4,q12,q1,q2,q3,q11,q13,q14]<;>rfl,by simp only [push_cast,↓reduceIte,zq1,zq2,zq3,zq4,zq5,q4,q12,q1,q2,q3,q11,q13,q14]<;>rfl,by simp only [push_cast,↓reduceIte,zq1,zq2,zq3,zq4,zq5,q4,q12,q1,q2,q3,q11,q13,q14]<;>rfl,hat',?_⟩ ?_;(first|omega|(simp;omega));(rw [hm];simp only [push_cast,↓reduceIte,zq1,zq2,zq3,zq4,zq5,toN_i,q14];omega)))
   ·(((have fct:=(a12 @q4 @q12 @q1 @q2 @q3 @q11 @q13 @q14 @e0 @hb @hl' @hr);repeat' (first|(refine gO ?_;intro K hK)|(refine kP ?_;clear hK K)|(refine hK _ _ ?_ ?_<;>clear hK K)|(intro wd hxd;have hS:=Sep.xx hxd)|refine sA ?_|(refine bM ?_ ?_<;>intro hb hc<;>first|exact zxf|(simp only [hb];clear hb))|((first|refine zalc ?_|refine zbsl ?_|((with_reducible refine gBox ?_);refine zbox ?_));intro gb wb hS)|((with_reducible refine gSt ?_);refine zs2 ?_;intro wb hS)|(refine zcp 130 (scStep_spec d st _ _) ?_;intro wb hS)|(refine zap (y:=(p,to)) ?_ (hy:=by rfl);intro vb wb hS)|(refine G.cn ?_ ?_<;>intro hc<;>try exact zxf)))<;>(try clear fct));all_goals (refine ih _ _ ⟨g4,g12,p+1,_,p,to,_,q',m',acc',_,(Sep.sub hS zw),by simp only [push_cast,↓reduceIte,zq1,zq2,zq3,zq4,zq5,q4,q12,q1,q2,q3,q11,q13,q14],by simp only [push_cast,↓reduceIte,zq1,zq2,zq3,zq4,zq5,q4,q12,q1,q2,q3,q11,q13,q14],by simp only [push_cast,↓reduceIte,zq1,zq2,zq3,zq4,zq5,q4,q12,q1,q2,q3,q11,q13,q14],by simp only [push_cast,↓reduceIte,zq1,zq2,zq3,zq4,zq5,q4,q12,q1,q2,q3,q11,q13,q14],by simp only [push_cast,↓reduceIte,zq1,zq2,zq3,zq4,zq5,q4,q12,q1,q2,q3,q11,q13,q14],by simp only [push_cast,↓reduceIte,zq1,zq2,zq3,zq4,zq5,q4,q12,q1,q2,q3,q11,q13,q14]<;>rfl,by simp only [push_cast,↓reduceIte,zq1,zq2,zq3,zq4,zq5,q4,q12,q1,q2,q3,q11,q13,q14]<;>rfl,by simp only [push_cast,↓reduceIte,zq1,zq2,zq3,zq4,zq5,q4,q12,q1,q2,q3,q11,q13,q14]<;>rfl,hat',?_⟩ ?_;(first|omega|(simp;omega));(rw [hm];simp only [push_cast,↓reduceIte,zq1,zq2,zq3,zq4,zq5,toN_i,q14];omega)))
   ·(((have fct:=(a12 @q4 @q12 @q1 @q2 @q3 @q11 @q13 @q14 @e0 @hb @hl' @hr);repeat' (first|(refine gO ?_;intro K hK)|(refine kP ?_;clear hK K)|(refine hK _ _ ?_ ?_<;>clear hK K)|(intro wd hxd;have hS:=Sep.xx hxd)|refine sA ?_|(refine bM ?_ ?_<;>intro hb hc<;>first|exact zxf|(simp only [hb];clear hb))|((first|refine zalc ?_|refine zbsl ?_|((with_reducible refine gBox ?_);refine zbox ?_));intro gb wb hS)|((with_reducible refine gSt ?_);refine zs2 ?_;intro wb hS)|(refine zcp 130 (scStep_spec d st _ _) ?_;intro wb hS)|(refine zap (y:=(p,to)) ?_ (hy:=by rfl);intro vb wb hS)|(refine G.cn ?_ ?_<;>intro hc<;>try exact zxf)))<;>(try clear fct));all_goals (refine ih _ _ ⟨g4,g12,p+1,_,p,to,_,q',m',acc',_,(Sep.sub hS zw),by simp only [push_cast,↓reduceIte,zq1,zq2,zq3,zq4,zq5,q4,q12,q1,q2,q3,q11,q13,q14],by simp only [push_cast,↓reduceIte,zq1,zq2,zq3,zq4,zq5,q4,q12,q1,q2,q3,q11,q13,q14],by simp only [push_cast,↓reduceIte,zq1,zq2,zq3,zq4,zq5,q4,q12,q1,q2,q3,q11,q13,q14],by simp only [push_cast,↓reduceIte,zq1,zq2,zq3,zq4,zq5,q4,q12,q1,q2,q3,q11,q13,q14],by simp only [push_cast,↓reduceIte,zq1,zq2,zq3,zq4,zq5,q4,q12,q1,q2,q3,q11,q13,q14],by simp only [push_cast,↓reduceIte,zq1,zq2,zq3,zq4,zq5,q4,q12,q1,q2,q3,q11,q13,q14]<;>rfl,by simp only [push_cast,↓reduceIte,zq1,zq2,zq3,zq4,zq5,q4,q12,q1,q2,q3,q11,q13,q14]<;>rfl,by simp only [push_cast,↓reduceIte,zq1,zq2,zq3,zq4,zq5,q4,q12,q1,q2,q3,q11,q13,q14]<;>rfl,hat',?_⟩ ?_;(first|omega|(simp;omega));(rw [hm];simp only [push_cast,↓reduceIte,zq1,zq2,zq3,zq4,zq5,toN_i,q14];omega)))
   ·(((have fct:=(a12 @q4 @q12 @q1 @q2 @q3 @q11 @q13 @q14 @e0 @hb @hl' @hr);repeat' (first|(refine gO ?_;intro K hK)|(refine kP ?_;clear hK K)|(refine hK _ _ ?_ ?_<;>clear hK K)|(intro wd hxd;have hS:=Sep.xx hxd)|refine sA ?_|(refine bM ?_ ?_<;>intro hb hc<;>first|exact zxf|(simp only [hb];clear hb))|((first|refine zalc ?_|refine zbsl ?_|((with_reducible refine gBox ?_);refine zbox ?_));intro gb wb hS)|((with_reducible refine gSt ?_);refine zs2 ?_;intro wb hS)|(refine zcp 130 (scStep_spec d st _ _) ?_;intro wb hS)|(refine zap (y:=(p,p)) ?_ (hy:=by rfl);intro vb wb hS)|(refine G.cn ?_ ?_<;>intro hc<;>try exact zxf)))<;>(try clear fct));all_goals (refine ih _ _ ⟨g4,g12,p+1,_,p,p,_,q',m',acc',_,(Sep.sub hS zw),by simp only [push_cast,↓reduceIte,zq1,zq2,zq3,zq4,zq5,q4,q12,q1,q2,q3,q11,q13,q14],by simp only [push_cast,↓reduceIte,zq1,zq2,zq3,zq4,zq5,q4,q12,q1,q2,q3,q11,q13,q14],by simp only [push_cast,↓reduceIte,zq1,zq2,zq3,zq4,zq5,q4,q12,q1,q2,q3,q11,q13,q14],by simp only [push_cast,↓reduceIte,zq1,zq2,zq3,zq4,zq5,q4,q12,q1,q2,q3,q11,q13,q14],by simp only [push_cast,↓reduceIte,zq1,zq2,zq3,zq4,zq5,q4,q12,q1,q2,q3,q11,q13,q14],by simp only [push_cast,↓reduceIte,zq1,zq2,zq3,zq4,zq5,q4,q12,q1,q2,q3,q11,q13,q14]<;>rfl,by simp only [push_cast,↓reduceIte,zq1,zq2,zq3,zq4,zq5,q4,q12,q1,q2,q3,q11,q13,q14]<;>rfl,by simp only [push_cast,↓reduceIte,zq1,zq2,zq3,zq4,zq5,q4,q12,q1,q2,q3,q11,q13,q14]<;>rfl,hat',?_⟩ ?_;(first|omega|(simp;omega));(rw [hm];simp only [push_cast,↓reduceIte,zq1,zq2,zq3,zq4,zq5,toN_i,q14];omega)))
   ·(((have fct:=(a12 @q4 @q12 @q1 @q2 @q3 @q11 @q13 @q14 @e0 @hb @hl' @hr);repeat' (first|(refine gO ?_;intro K hK)|(refine kP ?_;clear hK K)|(refine hK _ _ ?_ ?_<;>clear hK K)|(intro wd hxd;have hS:=Sep.xx hxd)|refine sA ?_|(refine bM ?_ ?_<;>intro hb hc<;>first|exact zxf|(simp only [hb];clear hb))|((first|refine zalc ?_|refine zbsl ?_|((with_reducible refine gBox ?_);refine zbox ?_));intro gb wb hS)|((with_reducible refine gSt ?_);refine zs2 ?_;intro wb hS)|(refine zcp 130 (scStep_spec d st _ _) ?_;intro wb hS)|(refine zap (y:=(p,p)) ?_ (hy:=by rfl);intro vb wb hS)|(refine G.cn ?_ ?_<;>intro hc<;>try exact zxf)))<;>(try clear fct));all_goals (refine ih _ _ ⟨g4,g12,p+1,_,p,p,_,q',m',acc',_,(Sep.sub hS zw),by simp only [push_cast,↓reduceIte,zq1,zq2,zq3,zq4,zq5,q4,q12,q1,q2,q3,q11,q13,q14],by simp only [push_cast,↓reduceIte,zq1,zq2,zq3,zq4,zq5,q4,q12,q1,q2,q3,q11,q13,q14],by simp only [push_cast,↓reduceIte,zq1,zq2,zq3,zq4,zq5,q4,q12,q1,q2,q3,q11,q13,q14],by simp only [push_cast,↓reduceIte,zq1,zq2,zq3,zq4,zq5,q4,q12,q1,q2,q3,q11,q13,q14],by simp only [push_cast,↓reduceIte,zq1,zq2,zq3,zq4,zq5,q4,q12,q1,q2,q3,q11,q13,q14],by simp only [push_cast,↓reduceIte,zq1,zq2,zq3,zq4,zq5,q4,q12,q1,q2,q3,q11,q13,q14]<;>rfl,by simp only [push_cast,↓reduceIte,zq1,zq2,zq3,zq4,zq5,q4,q12,q1,q2,q3,q11,q13,q14]<;>rfl,by simp only [push_cast,↓reduceIte,zq1,zq2,zq3,zq4,zq5,q4,q12,q1,q2,q3,q11,q13,q14]<;>rfl,hat',?_⟩ ?_;(first|omega|(simp;omega));(rw [hm];simp only [push_cast,↓reduceIte,zq1,zq2,zq3,zq4,zq5,toN_i,q14];omega)))
  ·by_cases hn:(sp.length:Int) < SP.length
   ·have hk:R.k=0:=by
     apply Decidable.byContradiction
     intro hk
     rw [if_neg hk] at he
     have:=hat.fault zo hk
     omega
    rw [if_pos hk] at he
    have hlast:=hat.last zo zo
    (have fct:=(a8 @q4 @q12 @q1 @q2 @q3 @q11 @q13 @q14);repeat' (first|(refine gO ?_;intro K hK)|(refine kP ?_;clear hK K)|(refine hK _ _ ?_ ?_<;>clear hK K)|(intro wd hxd;have hS:=Sep.xx hxd)|refine sA ?_|(refine bM ?_ ?_<;>intro hb hc<;>first|exact zxf|(simp only [hb];clear hb))|((first|refine zalc ?_|refine zbsl ?_|((with_reducible refine gBox ?_);refine zbox ?_));intro gb wb hS)|((with_reducible refine gSt ?_);refine zs2 ?_;intro wb hS)|(refine zap (y:=(fr,s.length)) ?_ (hy:=by (rw [he];rfl));intro vb wb hS)|(refine G.cn ?_ ?_<;>intro hc<;>try exact zxf)))<;>(try clear fct)
    all_goals
     (have fct:=(a8 @q4 @q12 @q1 @q2 @q3 @q11 @q13 @q14);refine rM ?_)
     rw [hlast]
     (exact Sep.sub ‹_› zw)
   ·have hsp2:SP=sp:=by
     have h2:=hat.sps
     have:=congrArg List.length h2
     rw [List.length_append] at this
     have hz:spW d wideL q st m fr to p (s.drop p)=[]:=List.eq_nil_of_length_eq_zero zo
     rw [h2,hz,List.append_nil]
    (have fct:=(a8 @q4 @q12 @q1 @q2 @q3 @q11 @q13 @q14);repeat' (first|(refine gO ?_;intro K hK)|(refine kP ?_;clear hK K)|(refine hK _ _ ?_ ?_<;>clear hK K)|(intro wd hxd;have hS:=Sep.xx hxd)|refine sA ?_|(refine bM ?_ ?_<;>intro hb hc<;>first|exact zxf|(simp only [hb];clear hb))|((first|refine zalc ?_|refine zbsl ?_|((with_reducible refine gBox ?_);refine zbox ?_));intro gb wb hS)|((with_reducible refine gSt ?_);refine zs2 ?_;intro wb hS)|(refine G.cn ?_ ?_<;>intro hc<;>try exact zxf)))<;>(try clear fct)
    all_goals
     (have fct:=(a8 @q4 @q12 @q1 @q2 @q3 @q11 @q13 @q14);refine rM ?_)
     rw [hsp2]
     (exact Sep.sub ‹_› zw)
end
instance (st : Int) : Decidable (outR st) := by unfold outR; infer_instance
def nFr (st:Int) (n:Nat):Nat:=if outR st then n else n+1
def nTo (st:Int) (n:Nat):Nat:=if st=5 then n+1 else n
structure Held27 (SP:List (Nat×Nat)) (st:Int) (n:Nat) (fs ts:List Nat):Prop where
 fl:fs.length=nFr st n
 tl:ts.length=nTo st n
 fp:fs=(SP.map Prod.fst).take fs.length
 tp:ts=(SP.map Prod.snd).take ts.length
 ks:outR st∨inR st∨st=5
 nn:inR st→n < SP.length
theorem take_push {l:List Nat} {x n:Nat} (h:l[n]?=some x):l.take (n+1)=l.take n++[x]:=by
 have hn:n < l.length:=by
  apply Decidable.byContradiction
  intro hn
  rw [List.getElem?_eq_none zo] at h
  simp at h
 rw [List.take_succ_eq_append_getElem hn]
 rw [List.getElem?_eq_getElem hn] at h
 injection h with h;rw [h]
theorem sp_at {SP sp rem:List (Nat×Nat)} {x:Nat×Nat} {r:List (Nat×Nat)} (h:SP=sp++rem) (hx:rem=x :: r):(SP.map Prod.fst)[sp.length]?=some x.1∧(SP.map Prod.snd)[sp.length]?=some x.2:=by
 subst hx;subst h
 simp
theorem out_not {st:Int} (h:inR st∨st=5):¬ outR st:=by unfold inR outR at *;omega
theorem Held27.step {d:Dl} {s:Str} {R:Rs} {SP:List (Nat×Nat)} {p:Nat} {st:Int} {fr to:Nat} {sp:List (Nat×Nat)} {q:Int} {m:Mk} {acc:List (List Str×Nat)} {fs ts:List Nat}
 (hat:At d s R SP p st fr to sp q m acc) (h:Held27 SP st sp.length fs ts) (hp:p < s.length) (hn:ts.length < SP.length) :
 ∃ fr' to' sp' q' m' acc',At d s R SP (p+1) (scM d st (s.getD p 0)).2.1 fr' to' sp' q' m' acc'∧sp'.length≤SP.length ∧
   Held27 SP (scM d st (s.getD p 0)).2.1 sp'.length (if (scM d st (s.getD p 0)).1.b=true then fs++[p] else fs) (if (scM d st (s.getD p 0)).1.l=true then ts++[p] else ts):=by
 obtain ⟨g1,g2,g3,g4,g5,g6⟩:=h
 have hspn:sp.length < SP.length:=by
  have:sp.length≤ts.length:=by rw [g2];unfold nTo;split<;>omega
  omega
 obtain ⟨e0,q',m',acc',hat'⟩:=hat.step hp hspn
 obtain ⟨k1,k2,k3⟩:=sc_kinds d st (s.getD p 0) g5 e0
 generalize scM d st (s.getD p 0)=x at *
 have hle:∀ {sp2:List (Nat×Nat)} {q2 st2:Int} {m2:Mk} {fr2 to2:Nat},SP=sp2++spW d wideL q2 st2 m2 fr2 to2 (p+1) (s.drop (p+1))→sp2.length≤SP.length:=by
  intro sp2 q2 st2 m2 fr2 to2 h;rw [h];simp
 rcases g5 with g5|g5|g5
 ·obtain ⟨hl,hr,h⟩:=k1 g5
  rw [hl,hr] at hat'
  simp only [Bool.false_eq_true,if_false] at hat'
  rcases h with ⟨hb,ho⟩|⟨hb,hi⟩
  ·rw [hb] at hat'
   simp only [Bool.false_eq_true,if_false] at hat'
   refine ⟨_,_,_,_,_,_,hat',hle hat'.sps,?_⟩
   rw [hb,hl]
   simp only [Bool.false_eq_true,if_false]
   refine ⟨by rw [g1];unfold nFr;rw [if_pos g5,if_pos ho],?_,g3,g4,.inl ho,fun h=>absurd ho (out_not (.inl h))⟩
   rw [g2];unfold nTo;rw [if_neg (by unfold outR at g5;omega),if_neg (by unfold outR at ho;omega)]
  ·rw [hb] at hat'
   simp only [if_true] at hat'
   refine ⟨_,_,_,_,_,_,hat',hle hat'.sps,?_⟩
   rw [hb,hl]
   simp only [Bool.false_eq_true,if_false,if_true]
   have hfl:fs.length=sp.length:=by rw [g1];unfold nFr;rw [if_pos g5]
   refine ⟨by rw [List.length_append,hfl];unfold nFr;rw [if_neg (out_not (.inl hi))];rfl,?_,?_,g4,.inr (.inl hi),fun _=>hspn⟩
   ·rw [g2];unfold nTo;rw [if_neg (by unfold outR at g5;omega),if_neg (by unfold inR at hi;omega)]
   ·match hrem:spW d wideL q' x.2.1 m' p to (p+1) (s.drop (p+1)) with
    | [] =>
      have:=congrArg List.length hat'.sps
      rw [hrem] at this;simp at this;omega
    | y :: r =>
      have hy:=(spW_head d wideL _ _ _ _ _ _ _ y r (.inl hi) hrem).1
      have hs:=(sp_at hat'.sps hrem).1
      rw [List.length_append,hfl,List.length_singleton,take_push (x:=p) (by rw [hs,hy]),←hfl,←g3]
 ·obtain ⟨hb,h⟩:=k2 g5
  rw [hb] at hat'
  simp only [Bool.false_eq_true,if_false] at hat'
  have hfl:fs.length=sp.length+1:=by rw [g1];unfold nFr;rw [if_neg (out_not (.inl g5))]
  have htl:ts.length=sp.length:=by rw [g2];unfold nTo;rw [if_neg (by unfold inR at g5;omega)]
  rcases h with ⟨hl,hr,hi⟩|⟨hl,hr,hi⟩|⟨hl,hr,hi⟩
  ·rw [hl,hr] at hat'
   simp only [Bool.false_eq_true,if_false] at hat'
   refine ⟨_,_,_,_,_,_,hat',hle hat'.sps,?_⟩
   rw [hb,hl]
   simp only [Bool.false_eq_true,if_false]
   refine ⟨by rw [hfl];unfold nFr;rw [if_neg (out_not (.inl hi))],?_,g3,g4,.inr (.inl hi),fun _=>hspn⟩
   rw [htl];unfold nTo;rw [if_neg (by unfold inR at hi;omega)]
  ·rw [hl,hr] at hat'
   simp only [Bool.false_eq_true,if_false,if_true] at hat'
   refine ⟨_,_,_,_,_,_,hat',hle hat'.sps,?_⟩
   rw [hb,hl]
   simp only [Bool.false_eq_true,if_false,if_true]
   refine ⟨by rw [hfl];unfold nFr;rw [if_neg (out_not (.inr hi))],by rw [List.length_append,htl];unfold nTo;rw [if_pos hi];rfl,g3,?_,.inr (.inr hi),fun h=>by unfold inR at h;omega⟩
   match hrem:spW d wideL q' x.2.1 m' fr p (p+1) (s.drop (p+1)) with
   | [] =>
     have:=congrArg List.length hat'.sps
     rw [hrem] at this;simp at this;omega
   | y :: r =>
     have hy:=(spW_head d wideL _ _ _ _ _ _ _ y r (.inr hi) hrem).2 hi
     have hs:=(sp_at hat'.sps hrem).2
     rw [List.length_append,htl,List.length_singleton,take_push (x:=p) (by rw [hs,hy]),←htl,←g4]
  ·rw [hl,hr] at hat'
   simp only [Bool.false_eq_true,if_false,if_true] at hat'
   refine ⟨_,_,_,_,_,_,hat',hle hat'.sps,?_⟩
   rw [hb,hl]
   simp only [Bool.false_eq_true,if_false,if_true]
   refine ⟨by rw [hfl];unfold nFr;rw [if_pos hi];simp,by rw [List.length_append,htl];unfold nTo;rw [if_neg (by unfold outR at hi;omega)];simp,g3,?_,.inl hi,fun h=>absurd hi (out_not (.inl h))⟩
   have hs:(SP.map Prod.snd)[sp.length]?=some p:=by rw [hat'.sps];simp
   rw [List.length_append,htl,List.length_singleton,take_push (x:=p) hs,←htl,←g4]
 ·obtain ⟨hb,hl,hr,hi⟩:=k3 g5
  rw [hb,hl,hr] at hat'
  simp only [Bool.false_eq_true,if_false,if_true] at hat'
  refine ⟨_,_,_,_,_,_,hat',hle hat'.sps,?_⟩
  rw [hb,hl]
  simp only [Bool.false_eq_true,if_false]
  refine ⟨by rw [g1];unfold nFr;rw [if_neg (out_not (.inr g5)),if_pos hi];simp,by rw [g2];unfold nTo;rw [if_pos g5,if_neg (by unfold outR at hi;omega)];simp,g3,g4,.inl hi,fun h=>absurd hi (out_not (.inl h))⟩
theorem Held27.last {d:Dl} {s:Str} {R:Rs} {SP:List (Nat×Nat)} {p:Nat} {st:Int} {fr to:Nat} {sp:List (Nat×Nat)} {q:Int} {m:Mk} {acc:List (List Str×Nat)} {fs ts:List Nat}
 (hat:At d s R SP p st fr to sp q m acc) (h:Held27 SP st sp.length fs ts) (hp:s.length≤p) (hn:ts.length < SP.length):fs=SP.map Prod.fst∧ts++[s.length]=SP.map Prod.snd:=by
 obtain ⟨g1,g2,g3,g4,g5,g6⟩:=h
 have hspn:sp.length < SP.length:=by
  have:sp.length≤ts.length:=by rw [g2];unfold nTo;split<;>omega
  omega
 have hlast:=hat.last hp hspn
 have hlen:SP.length=sp.length+1:=by rw [hlast];simp
 have hin:inR st:=by
  have h2:=hat.sps
  rw [List.drop_eq_nil_of_le hp,spW] at h2
  split at h2
  ·rename_i r he
   have:=endW_rec he
   unfold aft at this
   unfold inR;omega
  ·rw [h2] at hspn;simp at hspn
 have hfl:fs.length=SP.length:=by rw [g1];unfold nFr;rw [if_neg (out_not (.inl hin))];omega
 have htl:ts.length=sp.length:=by rw [g2];unfold nTo;rw [if_neg (by unfold inR at hin;omega)]
 refine ⟨by rw [g3,hfl];exact List.take_of_length_le ze,?_⟩
 rw [g4,htl,hlast];simp
end Go.Proofs.YtllanbmpacgigaaGreatDoor
