/- Texts of the proof, joined. -/
import Derived.Test.YtllanbmpacgigaaGreatDoorIV06
import Derived.Test.YtllanbmpacgigaaGreatDoorIQ06
namespace Go.Proofs.YtllanbmpacgigaaGreatDoor
open Operand renaming tmp→Y,const→yc
open MC renaming seq→Z,reg→yr,skip→yk,cond→yd
open MO renaming call→yl,bin→yb
open Nat renaming reduceAdd→zq1,reduceLeDiff→zq2,reduceEqDiff→zq3,reduceLT→zq4
open Int renaming reduceToNat→zq5
set_option linter.unusedSimpArgs false
set_option linter.unusedVariables false
attribute [local irreducible] SemK UnitK StK AlcK BslK CallK CallV Instr.box Builtin.append_ Instr.makeSlice Instr.makeMap Instr.lookup Instr.mapUpdate Instr.sliceAt convert
open Go.RowKit
theorem Sub.nil0:∀ {L:List Chk},Sub [] L
 | []=>.n
 | _ :: _=>Sub.skip Sub.nil0
def parM (d:Dl) (l:Lm) (s:Str):Rs:=wrun d l 0 0 {} (s.length - (stripM s).length) (stripM s)
theorem strip_drop (s:Str):stripM s=s.drop (s.length - (stripM s).length)∧(stripM s).length≤s.length:=by
 unfold stripM
 split
 ·rename_i h
  have:=congrArg List.length h
  simp at this
  constructor
  ·congr 1;simp;omega
  ·simp
 ·simp
theorem ex_mid (c:Chk) (B:List Chk):∀ A:List Chk,Ex c (A++c :: B) (A++B)
 | []=>.h
 | _ :: A=>.t (ex_mid c B A)
theorem sub_comm (A:List Chk):∀ B:List Chk,Sub (B++A) (A++B)
 | []=>by rw [List.append_nil];exact Sub.rfl'
 | b :: B=>.c (ex_mid b B A) (sub_comm A B)
theorem Sep.comm {w0 w:World} {A B:List Chk} (h:Sep w0 w (A++B)):Sep w0 w (B++A):=h.sub (sub_comm A B)
def c86:MC:=(Z (yr [qq 1 (.raw (.box 81 (Y 0)) 0),qq 2 (.mv (yc (.pointer none))),qq 3 (.mv (ki 0))]) (Z (Z (yr [qq 5 (.ld (.some 4) (Y 1)),qq 6 (yl 127 [(Y 5)]),qm 4 6]) (Z (yr [qm 7 4,qq 8 (yb .neq (Y 7) (ki 0))]) (yd (Y 8) (Z (yr [qm 9 4,qq 2 (.mv (yc (.pointer none))),qm 3 9]) .ret) yk))) (Z (yr [qq 10 (.ld (.some 4) (Y 1)),qq 11 (.bld [(.int .i64 0),(.int .i64 0),(.int .i64 0),(.bool false),(.slice none 0 0),(.slice none 0 0),(.int .i64 0),(.int .i64 0),(.int .i64 0),(.int .i64 0)] [⟨0,⟨4,(Y 10)⟩⟩]),qq 12 (.raw (.box 192 (Y 11)) 135),qm 2 12,qq 3 (.mv (ki 0))]) .ret)))
theorem fnew_no (l:Lm) (w:World) (h:fitsL l=false):Pu Tryz.prog 86 #[(.agg #[I l.F,I l.N,I l.R,.bool l.U])] w (.tuple #[.pointer none,I 2]):=by
 refine En 13 c86 Tryz.func86 ?_
 have hS:=Sep.start w
 (have fct:=@h;repeat' (first|refine G.reg fun K hK=>?_|(refine kM ?_;clear hK K)|refine sA ?_|(((with_reducible refine gBox ?_);refine zbox ?_);intro gb wb hS)|(refine zcp 127 (checkL_spec l _) ?_;intro wb hS)|(refine G.cn ?_ ?_<;>intro hc<;>try exact zxf)))<;>(try clear fct)
 all_goals
  refine rM ?_
  (first|exact Sep.xt ‹_›|exact ⟨rfl,Sep.xt ‹_›⟩)
theorem fnew_yes (l:Lm) (w:World) (h:fitsL l=true):Ret Tryz.prog 86 #[(.agg #[I l.F,I l.N,I l.R,.bool l.U])] w fun res w'=>∃ g fv rv,res=.tuple #[.pointer (some ⟨g,0,none⟩),I 0]∧Sep w w' [boxC g 192 [I l.F,I l.N,I l.R,.bool l.U,fv,rv,I 0,I 0,I 0,I 0],accC fv 5 eU [],accC rv 9 eS []]:=by
 refine En 13 c86 Tryz.func86 ?_
 have hS:=Sep.start w
 (have fct:=@h;repeat' (first|refine G.reg fun K hK=>?_|(refine kM ?_;clear hK K)|refine sA ?_|(((with_reducible refine gBox ?_);refine zbox ?_);intro gb wb hS)|(refine zcp 127 (checkL_spec l _) ?_;intro wb hS)|(refine G.cn ?_ ?_<;>intro hc<;>try exact zxf)))<;>(try clear fct)
 all_goals
  refine rM ?_
  have hS:=(hS.nil 5 eU).nil 9 eS
  exact ⟨_,.slice none 0 0,.slice none 0 0,rfl,Sep.sub hS zv⟩
def goN (go:List (List Str)→Bool):List (List Str)→List (List Str)→List (List Str)×Bool
 | acc,[]=>(acc,false)
 | acc,r :: rs=>if go (acc++[r])=true then goN go (acc++[r]) rs else (acc++[r],true)
theorem goN_app (go:List (List Str)→Bool) (y:List (List Str)):∀ (x a:List (List Str)),goN go a (x++y)=if (goN go a x).2=true then goN go a x else goN go (goN go a x).1 y
 | [],a=>by simp [goN]
 | r :: x,a=>by
   rw [List.cons_append,goN,goN]
   split
   ·exact goN_app go y x _
   ·rfl
theorem goN_all (go:List (List Str)→Bool):∀ (x a:List (List Str)),(goN go a x).2=false→(goN go a x).1=a++x
 | [],a,_=>by simp [goN]
 | r :: x,a,h=>by
   rw [goN] at h ⊢
   split at h
   ·rename_i h2;rw [if_pos h2,goN_all go x _ h];simp
   ·simp at h
structure TakeOK (tv:Value) (TSL:List (List Str)→List Chk→Prop) (go:List (List Str)→Bool):Prop where
 ok : ∀ {xss:List (List Str)} {r:List Str} {rv:Value} {w0 w:World} {M L:List Chk} {d:Option Nat} {ρ:Fr} {next:Fr→World→Prop},TSL xss L→(goN go [] xss).2=false→xss.length≤1000000000→Sep w0 w (accC rv 9 eS r :: (M++L)) →
  (∀ w' L',TSL (xss++[r]) L'→Sep w0 w' (M++L')→next (updO ρ d (.bool (go (xss++[r])))) w')→CallV Tryz.prog tv [rv] w d ρ next
def walkM (d:Dl) (l:Lm) (s:Str):Rs:=if rightD d=false then ⟨[],1,0⟩ else if fitsL l=false then ⟨[],2,0⟩ else parM d l s
theorem wrun_zero (d:Dl) (l:Lm):∀ (t:Str) (q st:Int) (m:Mk) (p:Nat),(wrun d l q st m p t).k=0→(wrun d l q st m p t).a=0:=by
 intro t
 induction t with
 | nil =>
   intro q st m p h
   rw [wrun_nil] at h ⊢
   cases he:endW l q st m with
   | error k=>rw [he] at h;have:=endW_err he;simp at h;omega
   | ok r=>rfl
 | cons b t ih =>
   intro q st m p h
   rw [wrun_cons] at h ⊢
   cases he:stepW d l q st m b with
   | error k=>rw [he] at h;have:=stepW_err he;simp at h;omega
   | ok x=>rw [he] at h;exact ih _ _ _ _ h
theorem dropB06 (l:Str) (k:Nat) (h:(k:Int) < l.length):l.drop k=l.getD k 0 :: l.drop (k+1):=by
 have h':k < l.length:=by omega
 rw [List.drop_eq_getElem_cons h',List.getD_eq_getElem?_getD,List.getElem?_eq_getElem h'];rfl
def c56l1:MC:=(Z (Z (yr [qm 51 15,qm 52 2,qq 53 (.lenS (Y 52)),qq 54 (yb .lss (Y 51) (Y 53))]) (yd (Y 54) yk (.exit 0))) (Z (.blk 1 (Z (yr [qm 58 2,qm 59 15,qq 60 (.idxS (Y 58) (Y 59)),qq 61 (yl 88 [(Y 12),(Y 60)]),qm 57 61,qq 62 (.ext 0 (Y 57)),qq 63 (.ext 1 (Y 57)),qq 64 (.ext 2 (Y 57)),qm 17 62,qm 18 63,qm 19 64]) (.blk 2 (Z (yr [qm 66 19,qq 67 (yb .neq (Y 66) (ki 0)),qm 65 67]) (yd (Y 65) (Z (yr [qm 68 19,qm 16 68]) (.exit 0)) (Z (yr [qm 70 18,qm 71 70,qmt 71 72 3,qmt 71 73 17,qt 71 74 (.raw (.call ⟨(.value (Y 72)),#[(Y 73)],#[22]⟩) 4),qt 71 75 (.un .not (Y 74)),qq 76 (.pick (Y 71) (Y 75) (kb false)),qm 69 76]) (yd (Y 69) (Z (yr [qq 77 (.bld [(.int .i64 0),(.int .i64 0)] []),qn (.st 2 (Y 8) (Y 77))]) .ret) yk))))))) (yr [qm 55 15,qq 56 (yb .add (Y 55) (ki 1)),qm 15 56])))
def c56:MC:=(Z (yr [qq 4 (.raw (.box 39 (Y 0)) 0),qq 5 (.raw (.box 81 (Y 1)) 0),qq 8 (.alc 77 [(.int .i64 0),(.int .i64 0)])]) (.scp (Z (Z (yr [qq 23 (.ld (.some 3) (Y 4)),qq 24 (yl 85 [(Y 23)]),qm 9 24]) (Z (yr [qm 25 9,qq 26 (yb .neq (Y 25) (ki 0))]) (yd (Y 26) (Z (yr [qm 27 9,qq 28 (.bld [(.int .i64 0),(.int .i64 0)] [⟨0,⟨1,(Y 27)⟩⟩]),qn (.st 2 (Y 8) (Y 28))]) .ret) yk))) (Z (yr [qq 30 (.ld (.some 4) (Y 5)),qq 31 (yl 86 [(Y 30)]),qm 29 31,qq 32 (.ext 0 (Y 29)),qq 33 (.ext 1 (Y 29)),qm 10 32,qm 11 33]) (Z (Z (yr [qm 34 11,qq 35 (yb .neq (Y 34) (ki 0))]) (yd (Y 35) (Z (yr [qm 36 11,qq 37 (.bld [(.int .i64 0),(.int .i64 0)] [⟨0,⟨1,(Y 36)⟩⟩]),qn (.st 2 (Y 8) (Y 37))]) .ret) yk)) (Z (yr [qq 38 (.ld (.some 3) (Y 4)),qm 39 10,qq 40 (.bld [(.int .u8 0),(.int .u8 0),(.int .i64 0),(.pointer none),(.int .i64 0),(.int .i64 0)] [⟨0,⟨3,(Y 38)⟩⟩,⟨3,⟨1,(Y 39)⟩⟩]),qq 12 (.alc 139 [(.int .u8 0),(.int .u8 0),(.int .i64 0),(.pointer none),(.int .i64 0),(.int .i64 0)]),qn (.st 6 (Y 12) (Y 40))]) (Z (yr [qm 42 2,qq 43 (yl 87 [(Y 42)]),qm 41 43,qq 44 (.ext 0 (Y 41)),qq 45 (.ext 1 (Y 41)),qm 13 44,qm 14 45]) (Z (yr [qm 46 2,qq 47 (.lenS (Y 46)),qm 48 13,qq 49 (.lenS (Y 48)),qq 50 (yb .sub (Y 47) (Y 49)),qm 15 50]) (Z (yr [qq 16 (.mv (ki 0))]) (Z .lab (Z (.blk 0 (.loop c56l1)) (Z (Z (yr [qm 78 16,qq 79 (yb .eql (Y 78) (ki 0))]) (yd (Y 79) (Z (yr [qq 81 (yl 89 [(Y 12)]),qm 80 81,qq 82 (.ext 0 (Y 80)),qq 83 (.ext 1 (Y 80)),qq 84 (.ext 2 (Y 80)),qm 20 82,qm 21 83,qm 22 84]) (Z (Z (yr [qm 85 21]) (yd (Y 85) (yr [qm 86 3,qm 87 20,qq 88 (.raw (.call ⟨(.value (Y 86)),#[(Y 87)],#[22]⟩) 4)]) yk)) (yr [qm 89 22,qm 16 89]))) yk)) (Z (Z (yr [qm 90 16,qq 91 (yb .eql (Y 90) (ki 0))]) (yd (Y 91) (Z (yr [qq 92 (.bld [(.int .i64 0),(.int .i64 0)] []),qn (.st 2 (Y 8) (Y 92))]) .ret) yk)) (Z (yr [qm 93 16,qm 94 15,qq 95 (.bld [(.int .i64 0),(.int .i64 0)] [⟨0,⟨1,(Y 93)⟩⟩,⟨1,⟨1,(Y 94)⟩⟩]),qn (.st 2 (Y 8) (Y 95))]) .ret))))))))))))))
set_option maxHeartbeats 2000000 in
theorem walk_spec {tv:Value} {TSL:List (List Str)→List Chk→Prop} {go:List (List Str)→Bool} (hT:TakeOK tv TSL go) (d:Dl) (l:Lm) (s:Str) {w0 w:World} {L:List Chk} (hl:s.length≤1000000) (hS:Sep w0 w L) (hL:TSL [] L) :
 Ret Tryz.prog 56 #[(.agg #[U d.dl,U d.q,I d.e]),(.agg #[I l.F,I l.N,I l.R,.bool l.U]),S s,tv] w fun res w'=>res=.agg #[I (if (goN go [] ((walkM d l s).rs.map (·.1))).2=true then 0 else (walkM d l s).k),I (if (goN go [] ((walkM d l s).rs.map (·.1))).2=true then 0 else (walkM d l s).a)]∧∃ L',TSL (goN go [] ((walkM d l s).rs.map (·.1))).1 L'∧Sep w0 w' L':=by
 refine En 96 c56 Tryz.func56 ?_
 unfold walkM
 cases hr:rightD d
 ·rw [if_pos rfl]
  (have fct:=@hr;repeat' (first|refine G.reg fun K hK=>?_|(refine kM ?_;clear hK K)|refine sA ?_|(refine brO_n ?_ ?_<;>intro hb hc<;>first|exact zxf|(simp only [hb];clear hb))|((first|refine zalc ?_|((with_reducible refine gBox ?_);refine zbox ?_));intro gb wb hS)|((with_reducible refine gSt ?_);refine zs2 ?_;intro wb hS)|(refine zcv ?_)|(refine zcp 85 (checkD_spec d _) ?_;intro wb hS)|(refine G.cn ?_ ?_<;>intro hc<;>try exact zxf)))<;>(try clear fct)
  all_goals
   refine rM ?_
   exact ⟨by simp [goN],L,hL,Sep.sub hS zv⟩
 ·rw [if_neg (show ¬ true=false by decide)]
  cases hf:fitsL l
  ·rw [if_pos rfl]
   (have fct:=@hr;repeat' (first|refine G.reg fun K hK=>?_|(refine kM ?_;clear hK K)|refine sA ?_|(refine brO_n ?_ ?_<;>intro hb hc<;>first|exact zxf|(simp only [hb];clear hb))|((first|refine zalc ?_|((with_reducible refine gBox ?_);refine zbox ?_));intro gb wb hS)|((with_reducible refine gSt ?_);refine zs2 ?_;intro wb hS)|(refine zcv ?_)|(refine zcp 85 (checkD_spec d _) ?_;intro wb hS)|(refine zcp 86 (fnew_no l _ hf) ?_;intro wb hS)|(refine G.cn ?_ ?_<;>intro hc<;>try exact zxf)))<;>(try clear fct)
   all_goals
    refine rM ?_
    exact ⟨by simp [goN],L,hL,Sep.sub hS zv⟩
  ·rw [if_neg (show ¬ true=false by decide)]
   unfold parM
   obtain ⟨hsd,hsl⟩:=strip_drop s
   generalize hoff:s.length - (stripM s).length=off at *
   have hI:(s.length:Int) - ((stripM s).length:Int)=off:=by omega
   have hoff2:off≤s.length:=by omega
   have hR0:wrun d l 0 0 {} off (stripM s)=wrun d l 0 0 {} off (s.drop off):=by rw [←hsd]
   rw [hR0]
   (have fct:=@hr;repeat' (first|refine G.reg fun K hK=>?_|(refine kM ?_;clear hK K)|refine sA ?_|(refine brO_n ?_ ?_<;>intro hb hc<;>first|exact zxf|(simp only [hb];clear hb))|((first|refine zalc ?_|((with_reducible refine gBox ?_);refine zbox ?_));intro gb wb hS)|((with_reducible refine gSt ?_);refine zs2 ?_;intro wb hS)|(refine zcv ?_)|(refine zcp 85 (checkD_spec d _) ?_;intro wb hS)|(refine zco 86 (fnew_yes l _ hf) ?_;rintro vb wb ⟨g,fv,rv,rfl,hS2⟩;have hS:=hS2.ap;simp only [apps] at hS)|(refine zcp 87 (strip_spec s _ zo) ?_;intro wb hS)|(refine G.cn ?_ ?_<;>intro hc<;>try exact zxf)))<;>(try clear fct)
   rename_i g8 _ _ _ _ _ _ _ _ _ _ _
   have hz:=wrun_zero d l (s.drop off) 0 0 {} off
   generalize hR:wrun d l 0 0 {} off (s.drop off)=R at hz ⊢
   refine G.loop (fun r' w'=>∃ (p:Nat) (q st:Int) (m:Mk) (acc:List (List Str×Nat)) (L2:List Chk) (fv rv:Value),p≤s.length∧r' 15=I p∧r' 2=S s∧r' 3=tv∧r' 8=.pointer (some ⟨g8,0,none⟩)∧r' 12=.pointer (some ⟨gb,0,none⟩)∧r' 16=I 0
    ∧ R=(wrun d l q st m p (s.drop p)).pre acc∧bdM (3 * p) m∧acc.length≤p∧(goN go [] (acc.map (·.1))).2=false∧TSL (acc.map (·.1)) L2∧Sep w0 w' (boxC gb 139 [U d.dl,U d.q,I d.e,.pointer (some ⟨g,0,none⟩),I q,I st] :: boxC g 192 [I l.F,I l.N,I l.R,.bool l.U,fv,rv,I m.bg,I m.ct,I m.wd,I 0] :: accC fv 5 eU m.fl :: accC rv 9 eS m.rc :: boxC g8 77 [I 0,I 0] :: L2)) (fun r' _=>s.length - toN (r' 15)) ?_ ?_
   ·have hS:Sep w0 _ (boxC gb 139 [U d.dl,U d.q,I d.e,.pointer (some ⟨g,0,none⟩),I 0,I 0] :: boxC g 192 [I l.F,I l.N,I l.R,.bool l.U,fv,rv,I 0,I 0,I 0,I 0] :: accC fv 5 eU [] :: accC rv 9 eS [] :: boxC g8 77 [I 0,I 0] :: L):=Sep.sub hS zv
    have fct:=@hI;exact ⟨off,0,0,{},[],L,fv,rv,hoff2,by exact sf,by exact sf,by exact sf,by exact sf,by exact sf,by exact sf,hR.symm,⟨by simp,by simp,by simp,by simp⟩,by simp,rfl,hL,hS⟩
   ·clear hS hS2
    rintro u wl ⟨p,q,st,m,acc,L2,fv,rv,hp,h15,q2,q3,q8,q12,q16,e,hb,hac,hgo,hL,hS⟩ ih
    have hgo1:=goN_all go _ _ hgo
    rw [List.nil_append] at hgo1
    by_cases hlt:(p:Int) < s.length
    ·rw [dropB06 s p hlt,wrun_cons] at e
     cases hsw:stepW d l q st m (s.getD p 0) with
     | error k =>
       rw [hsw] at e
       have hk:=stepW_err hsw
       have hR2:R=⟨acc,k,p⟩:=by rw [e];simp [Rs.pre]
       subst hR2
       (have fct:=(a6 @h15 @q2 @q3 @q8 @q12 @q16);repeat' (first|refine G.reg fun K hK=>?_|(refine kM ?_;clear hK K)|refine sA ?_|(refine brO_n ?_ ?_<;>intro hb hc<;>first|exact zxf|(simp only [hb];clear hb))|((first|refine zalc ?_|((with_reducible refine gBox ?_);refine zbox ?_));intro gb wb hS)|((with_reducible refine gSt ?_);refine zs2 ?_;intro wb hS)|(refine zcv ?_)|((with_reducible (show CallK _ 88 _ _ _ _ _));have hx:WkS w0 _ gb g d l q st m (boxC g8 77 [I 0,I 0] :: L2):=⟨fv,rv,Sep.sub hS zv⟩;refine zco 88 (wstep_spec (b:=s.getD p 0) hx (bd_mono hb zo)) ?_;clear hx;intro vb wb hG;rw [hsw] at hG;obtain ⟨rfl,hS⟩:=hG)|(refine G.cn ?_ ?_<;>intro hc<;>try exact zxf)))<;>(try clear fct)
       all_goals
        (have fct:=(a6 @h15 @q2 @q3 @q8 @q12 @q16);refine rM ?_)
        simp only [hgo,hgo1,Bool.false_eq_true,if_false]
        exact ⟨trivial,L2,hL,Sep.sub hS zv⟩
     | ok x =>
       rw [hsw] at e
       have hb2:=stepW_bd hb hsw
       obtain ⟨q',st',m',o⟩:=x
       cases o with
       | none =>
         have e:R=(wrun d l q' st' m' (p+1) (s.drop (p+1))).pre acc:=by rw [e];simp [Rs.pre,oneR]
         (have fct:=(a6 @h15 @q2 @q3 @q8 @q12 @q16);repeat' (first|refine G.reg fun K hK=>?_|(refine kM ?_;clear hK K)|refine sA ?_|(refine brO_n ?_ ?_<;>intro hb hc<;>first|exact zxf|(simp only [hb];clear hb))|((first|refine zalc ?_|((with_reducible refine gBox ?_);refine zbox ?_));intro gb wb hS)|((with_reducible refine gSt ?_);refine zs2 ?_;intro wb hS)|(refine zcv ?_)|((with_reducible (show CallK _ 88 _ _ _ _ _));have hx:WkS w0 _ gb g d l q st m (boxC g8 77 [I 0,I 0] :: L2):=⟨fv,rv,Sep.sub hS zv⟩;refine zco 88 (wstep_spec (b:=s.getD p 0) hx (bd_mono hb zo)) ?_;clear hx;intro vb wb hG;rw [hsw] at hG;obtain ⟨rfl,fv2,rv2,hS⟩:=hG)|(refine G.cn ?_ ?_<;>intro hc<;>try exact zxf)))<;>(try clear fct)
         all_goals
          have fct:=(a6 @q2 @q3 @q8 @q12 @q16 @h15);refine ih _ _ ⟨p+1,q',st',m',acc,L2,fv2,rv2,by omega,by exact sf,by exact sf,by exact sf,by exact sf,by exact sf,by exact sf,e,bd_mono hb2 zo,by omega,hgo,hL,Sep.sub hS zv⟩ ?_
          (simp only [push_cast,↓reduceIte,zq1,zq2,zq3,zq4,zq5,toN_i,h15,q2,q3,q8,q12,q16]<;>omega)
       | some r =>
         have e:R=(wrun d l q' st' m' (p+1) (s.drop (p+1))).pre (acc++[(r,p)]):=by rw [e];simp [Rs.pre,oneR]
         have hg2:=goN_app go [r] (acc.map (·.1)) []
         rw [if_neg (by rw [hgo];simp),hgo1] at hg2
         have hmap:(acc++[(r,p)]).map (·.1)=acc.map (·.1)++[r]:=by simp
         cases hgr:go (acc.map (·.1)++[r])
         ·have hg3:goN go [] (acc.map (·.1)++[r])=(acc.map (·.1)++[r],true):=by rw [hg2,goN,hgr];rfl
          have hg4:goN go [] (R.rs.map (·.1))=(acc.map (·.1)++[r],true):=by
           rw [e]
           simp only [Rs.pre]
           rw [List.map_append,hmap,goN_app,hg3];rfl
          (have fct:=(a7 @h15 @q2 @q3 @q8 @q12 @q16 @hgr);repeat' (first|refine G.reg fun K hK=>?_|(refine kM ?_;clear hK K)|refine sA ?_|(refine brO_n ?_ ?_<;>intro hb hc<;>first|exact zxf|(simp only [hb];clear hb))|((first|refine zalc ?_|((with_reducible refine gBox ?_);refine zbox ?_));intro gb wb hS)|((with_reducible refine gSt ?_);refine zs2 ?_;intro wb hS)|(refine zcv ?_)|((with_reducible (show CallK _ 88 _ _ _ _ _));have hx:WkS w0 _ gb g d l q st m (boxC g8 77 [I 0,I 0] :: L2):=⟨fv,rv,Sep.sub hS zv⟩;refine zco 88 (wstep_spec (b:=s.getD p 0) hx (bd_mono hb zo)) ?_;clear hx;intro vb wb hG;rw [hsw] at hG;obtain ⟨rv3,rfl,fv2,rv2,hS⟩:=hG)|((with_reducible (show CallV _ tv _ _ _ _ _));refine hT.ok (M:=[boxC gb 139 [U d.dl,U d.q,I d.e,.pointer (some ⟨g,0,none⟩),I q',I st'],boxC g 192 [I l.F,I l.N,I l.R,.bool l.U,fv2,rv2,I m'.bg,I m'.ct,I m'.wd,I 0],accC fv2 5 eU m'.fl,accC rv2 9 eS m'.rc,boxC g8 77 [I 0,I 0]]) hL hgo (by simp;omega) (by first|(exact Sep.sub ‹_› zv)|fail) ?_;intro wb L3 hL3 hS;simp only [apps] at hS)|(refine G.cn ?_ ?_<;>intro hc<;>try exact zxf)))<;>(try clear fct)
          all_goals
           (have fct:=(a6 @h15 @q2 @q3 @q8 @q12 @q16);refine rM ?_)
           simp only [hg4,if_true]
           exact ⟨trivial,L3,hL3,Sep.sub hS zv⟩
         ·have hg3:goN go [] (acc.map (·.1)++[r])=(acc.map (·.1)++[r],false):=by rw [hg2,goN,hgr];rfl
          (have fct:=(a7 @h15 @q2 @q3 @q8 @q12 @q16 @hgr);repeat' (first|refine G.reg fun K hK=>?_|(refine kM ?_;clear hK K)|refine sA ?_|(refine brO_n ?_ ?_<;>intro hb hc<;>first|exact zxf|(simp only [hb];clear hb))|((first|refine zalc ?_|((with_reducible refine gBox ?_);refine zbox ?_));intro gb wb hS)|((with_reducible refine gSt ?_);refine zs2 ?_;intro wb hS)|(refine zcv ?_)|((with_reducible (show CallK _ 88 _ _ _ _ _));have hx:WkS w0 _ gb g d l q st m (boxC g8 77 [I 0,I 0] :: L2):=⟨fv,rv,Sep.sub hS zv⟩;refine zco 88 (wstep_spec (b:=s.getD p 0) hx (bd_mono hb zo)) ?_;clear hx;intro vb wb hG;rw [hsw] at hG;obtain ⟨rv3,rfl,fv2,rv2,hS⟩:=hG)|((with_reducible (show CallV _ tv _ _ _ _ _));refine hT.ok (M:=[boxC gb 139 [U d.dl,U d.q,I d.e,.pointer (some ⟨g,0,none⟩),I q',I st'],boxC g 192 [I l.F,I l.N,I l.R,.bool l.U,fv2,rv2,I m'.bg,I m'.ct,I m'.wd,I 0],accC fv2 5 eU m'.fl,accC rv2 9 eS m'.rc,boxC g8 77 [I 0,I 0]]) hL hgo (by simp;omega) (by first|(exact Sep.sub ‹_› zv)|fail) ?_;intro wb L3 hL3 hS;simp only [apps] at hS)|(refine G.cn ?_ ?_<;>intro hc<;>try exact zxf)))<;>(try clear fct)
          all_goals
           have fct:=(a6 @q2 @q3 @q8 @q12 @q16 @h15);refine ih _ _ ⟨p+1,q',st',m',acc++[(r,p)],L3,fv2,rv2,by omega,by exact sf,by exact sf,by exact sf,by exact sf,by exact sf,by exact sf,e,bd_mono hb2 zo,by simp;omega,by rw [hmap,hg3],by rw [hmap];exact hL3,Sep.sub hS zv⟩ ?_
           (simp only [push_cast,↓reduceIte,zq1,zq2,zq3,zq4,zq5,toN_i,h15,q2,q3,q8,q12,q16]<;>omega)
    ·have hd:s.drop p=[]:=List.drop_eq_nil_of_le zo
     rw [hd,wrun_nil] at e
     cases hsw:endW l q st m with
     | error k =>
       rw [hsw] at e
       have hk:=endW_err hsw
       have hR2:R=⟨acc,k,p⟩:=by rw [e];simp [Rs.pre]
       subst hR2
       (have fct:=(a6 @h15 @q2 @q3 @q8 @q12 @q16);repeat' (first|refine G.reg fun K hK=>?_|(refine kM ?_;clear hK K)|refine sA ?_|(refine brO_n ?_ ?_<;>intro hb hc<;>first|exact zxf|(simp only [hb];clear hb))|((first|refine zalc ?_|((with_reducible refine gBox ?_);refine zbox ?_));intro gb wb hS)|((with_reducible refine gSt ?_);refine zs2 ?_;intro wb hS)|(refine zcv ?_)|((with_reducible (show CallK _ 89 _ _ _ _ _));have hx:WkS w0 _ gb g d l q st m (boxC g8 77 [I 0,I 0] :: L2):=⟨fv,rv,Sep.sub hS zv⟩;refine zco 89 (wend_spec hx (bd_mono hb zo)) ?_;clear hx;intro vb wb hG;rw [hsw] at hG;obtain ⟨rfl,hS⟩:=hG)|(refine G.cn ?_ ?_<;>intro hc<;>try exact zxf)))<;>(try clear fct)
       all_goals
        (have fct:=(a6 @h15 @q2 @q3 @q8 @q12 @q16);refine rM ?_)
        simp only [hgo,hgo1,Bool.false_eq_true,if_false]
        exact ⟨trivial,L2,hL,Sep.sub hS zv⟩
     | ok o =>
       rw [hsw] at e
       cases o with
       | none =>
         have hR2:R=⟨acc,0,0⟩:=by rw [e];simp [Rs.pre,oneR]
         subst hR2
         (have fct:=(a6 @h15 @q2 @q3 @q8 @q12 @q16);repeat' (first|refine G.reg fun K hK=>?_|(refine kM ?_;clear hK K)|refine sA ?_|(refine brO_n ?_ ?_<;>intro hb hc<;>first|exact zxf|(simp only [hb];clear hb))|((first|refine zalc ?_|((with_reducible refine gBox ?_);refine zbox ?_));intro gb wb hS)|((with_reducible refine gSt ?_);refine zs2 ?_;intro wb hS)|(refine zcv ?_)|((with_reducible (show CallK _ 89 _ _ _ _ _));have hx:WkS w0 _ gb g d l q st m (boxC g8 77 [I 0,I 0] :: L2):=⟨fv,rv,Sep.sub hS zv⟩;refine zco 89 (wend_spec hx (bd_mono hb zo)) ?_;clear hx;intro vb wb hG;rw [hsw] at hG;obtain ⟨rfl,hS⟩:=hG)|(refine G.cn ?_ ?_<;>intro hc<;>try exact zxf)))<;>(try clear fct)
         all_goals
          (have fct:=(a6 @h15 @q2 @q3 @q8 @q12 @q16);refine rM ?_)
          simp only [hgo,hgo1,Bool.false_eq_true,if_false]
          exact ⟨by trivial,L2,hL,Sep.sub hS zv⟩
       | some r =>
         have hR2:R=⟨acc++[(r,p)],0,0⟩:=by rw [e];simp [Rs.pre,oneR]
         subst hR2
         have hmap:(acc++[(r,p)]).map (·.1)=acc.map (·.1)++[r]:=by simp
         have hg2:=goN_app go [r] (acc.map (·.1)) []
         rw [if_neg (by rw [hgo];simp),hgo1] at hg2
         have hg5:(goN go [] ((acc++[(r,p)]).map (·.1))).1=acc.map (·.1)++[r]:=by
          rw [hmap,hg2,goN]
          split
          ·rfl
          ·rfl
         (have fct:=(a6 @h15 @q2 @q3 @q8 @q12 @q16);repeat' (first|refine G.reg fun K hK=>?_|(refine kM ?_;clear hK K)|refine sA ?_|(refine brO_n ?_ ?_<;>intro hb hc<;>first|exact zxf|(simp only [hb];clear hb))|((first|refine zalc ?_|((with_reducible refine gBox ?_);refine zbox ?_));intro gb wb hS)|((with_reducible refine gSt ?_);refine zs2 ?_;intro wb hS)|(refine zcv ?_)|((with_reducible (show CallK _ 89 _ _ _ _ _));have hx:WkS w0 _ gb g d l q st m (boxC g8 77 [I 0,I 0] :: L2):=⟨fv,rv,Sep.sub hS zv⟩;refine zco 89 (wend_spec hx (bd_mono hb zo)) ?_;clear hx;intro vb wb hG;rw [hsw] at hG;obtain ⟨rv3,rfl,hS⟩:=hG)|((with_reducible (show CallV _ tv _ _ _ _ _));refine hT.ok (M:=[boxC g8 77 [I 0,I 0]]) hL hgo (by simp;omega) (by first|(exact Sep.sub ‹_› zv)|fail) ?_;intro wb L3 hL3 hS;simp only [apps] at hS)|(refine G.cn ?_ ?_<;>intro hc<;>try exact zxf)))<;>(try clear fct)
         all_goals
          (have fct:=(a6 @h15 @q2 @q3 @q8 @q12 @q16);refine rM ?_)
          refine ⟨by simp,L3,by rw [hg5];exact hL3,Sep.sub hS zv⟩
theorem lit_rdS {w:World} {g n:Nat} {t:TypeId} (ys:List Str) (h:Blk w g t (ys.flatMap eS.f).toArray) (hn:n=ys.length) (hm:ys.length≤1000000):Rd w eS (.slice (some ⟨g,0,none⟩) n n) ys :=
 blk_rd h hn (Nat.le_refl _) zo (fun u hu=>by obtain ⟨s,_,hu⟩:=List.mem_flatMap.1 hu;simp [eS] at hu;subst hu;exact one_s)
theorem goN_true:∀ (x a:List (List Str)),goN (fun _=>true) a x=(a++x,false)
 | [],a=>by simp [goN]
 | r :: x,a=>by rw [goN,if_pos rfl,goN_true x _];simp
theorem pcl_of {gt:Nat} {tv:Value} {vs:List Value} {xss:List (List Str)} {L L1 L2 M:List Chk} {w w0:World} (hS:Sep w0 w L) (h1:Ex (boxC gt 40 [tv]) L L1) (h2:Ex (accC tv 22 eV vs) L1 L2) (h3:Ex (frzC eS vs xss) L2 M) :
 ∃ tv vs,Sep w0 w (boxC gt 40 [tv] :: accC tv 22 eV vs :: frzC eS vs xss :: M):=⟨tv,vs,hS.sub (.c h1 (.c h2 (.c h3 Sub.rfl')))⟩
def c57:MC:=(Z (yr [qq 3 (.mv (kb false))]) (Z (yr [qq 4 (.ld none (Y 1)),qm 5 0,qq 6 (.bsl 22 [(.slice none 0 0)] 1 [⟨0,⟨1,(Y 5)⟩⟩]),qq 7 (.raw (.call ⟨(.builtin .append),#[(Y 4),(Y 6)],#[40,40]⟩) 40),qn (.st 1 (Y 1) (Y 7))]) (Z (yr [qq 3 (.mv (kb true))]) .ret)))
theorem pcl_spec {gt:Nat} {tv rv:Value} {vs:List Value} {xss:List (List Str)} {r:List Str} {M:List Chk} {w w0:World} (hS:Sep w0 w (accC rv 9 eS r :: boxC gt 40 [tv] :: accC tv 22 eV vs :: frzC eS vs xss :: M)) (hl:xss.length≤1000000000) :
 Ret Tryz.prog 57 #[rv,.pointer (some ⟨gt,0,none⟩)] w fun res w'=>res=.bool true∧∃ tv vs,Sep w0 w' (boxC gt 40 [tv] :: accC tv 22 eV vs :: frzC eS vs (xss++[r]) :: M):=by
 refine En 8 c57 Tryz.func57 ?_
 have hlen:=hS.frzLen (.t (.t (.t .h)))
 repeat' (first|refine G.reg fun K hK=>?_|(refine kM ?_;clear hK K)|refine sA ?_|(refine zbsl ?_;intro gb wb hS)|((with_reducible refine gSt ?_);refine zs2 ?_;intro wb hS)|(refine zap ?_;intro vb wb hS))
 all_goals
  refine rM ?_
  have hS:=hS.frzPush (.h) (.t (.t .h))
  exact pcl_of hS zr zr zr
theorem take_parse (gt:Nat) (E:List Chk):TakeOK (.func (.func 57) #[] #[.pointer (some ⟨gt,0,none⟩)]) (fun xss L=>∃ tv vs,L=boxC gt 40 [tv] :: accC tv 22 eV vs :: frzC eS vs xss :: E) (fun _=>true):=by
 refine ⟨?_⟩
 rintro xss r rv w0 w M L d ρ next ⟨tv,vs,rfl⟩ _ hl hS k
 have hS2:Sep w0 w (accC rv 9 eS r :: boxC gt 40 [tv] :: accC tv 22 eV vs :: frzC eS vs xss :: (E++M)):=hS.sub (.c .h (sub_comm M (boxC gt 40 [tv] :: accC tv 22 eV vs :: frzC eS vs xss :: E)))
 refine zcv ?_
 refine zco 57 (pcl_spec hS2 hl) ?_
 rintro v w' ⟨rfl,tv',vs',hS3⟩
 exact k w' _ ⟨tv',vs',rfl⟩ (Sep.comm (A:=boxC gt 40 [tv'] :: accC tv' 22 eV vs' :: frzC eS vs' (xss++[r]) :: E) hS3)
def c38:MC:=(Z (yr [qq 3 (.raw (.box 39 (Y 0)) 0),qq 4 (.raw (.box 81 (Y 1)) 0),qq 6 (.mv (yc (.slice none 0 0))),qq 7 (.alc 77 [(.int .i64 0),(.int .i64 0)])]) (Z (yr [qq 8 (.alc 40 [(.slice none 0 0)])]) (Z (yr [qq 10 (.ld (.some 3) (Y 3)),qq 11 (.ld (.some 4) (Y 4)),qm 12 2,qq 13 (.raw (.makeFunc (.func 57) #[] #[(Y 8)]) 23),qq 14 (yl 56 [(Y 10),(Y 11),(Y 12),(Y 13)]),qq 9 (.alc 77 [(.int .i64 0),(.int .i64 0)]),qn (.st 2 (Y 9) (Y 14))]) (Z (.drg [qq 15 (.ld none (Y 8)),qq 16 (.ld (.some 2) (Y 9)),qm 6 15,qn (.st 2 (Y 7) (Y 16))] (.some (.br [] (.leaf [qq 15 (.ld none (Y 8)),qm 6 15,qq 16 (.ld (.some 2) (Y 9)),qn (.st 2 (Y 7) (Y 16))]) (.leaf [qq 16 (.ld (.some 2) (Y 9)),qq 15 (.ld none (Y 8)),qm 6 15,qn (.st 2 (Y 7) (Y 16))])))) .ret))))
theorem parse_spec (d:Dl) (l:Lm) (s:Str) (w:World) (hl:s.length≤900000) :
 Ret Tryz.prog 38 #[(.agg #[U d.dl,U d.q,I d.e]),(.agg #[I l.F,I l.N,I l.R,.bool l.U]),S s] w fun res w'=>∃ v vs,res=.tuple #[v,.agg #[I (walkM d l s).k,I (walkM d l s).a]]∧Sep w w' [accC v 22 eV vs,frzC eS vs ((walkM d l s).rs.map (·.1))]:=by
 refine En 17 c38 Tryz.func38 ?_
 have hS:=Sep.start w
 repeat' (first|refine aM ?_|refine G.reg fun K hK=>?_|(refine kM ?_;clear hK K)|(refine kN ?_;clear hK K;intro wd hxd;have hS:=Sep.ext ‹_› hxd)|((first|have hk:=hK|have hk:=hK2);clear hk;simp (disch:=(first|exact dis|fail)) only [push_cast,↓reduceIte,zq1,zq2,zq3,zq4,zq5,List.map_toArray])|((first|refine brO_mk ?_ ?_|refine brQ_mk ?_ ?_)<;>intro hb<;>(try simp only [Bool.not_eq_true',Bool.not_eq_false'] at hb)<;>have hc:=hb<;>(try simp only [hcs,reduceCtorEq] at hc)<;>(try (exfalso;omega))<;>simp only [hb]<;>clear hb)|(refine zalc ?_;intro gb wb hS)|(refine zbsl ?_;intro gb wb hS)|((with_reducible (show SemK _ (Instr.box _ _) _ _ _ _));refine zbox ?_;intro gb wb hS)|((with_reducible (show StK _ _ (Value.pointer _) _ _ _ _ _));refine zst ?_;intro wb hS;(try simp only [sets] at hS))|(refine zcv ?_)|((with_reducible (show CallK _ 56 _ _ _ _ _));have hS:=(hS.nil 22 eV).frz0 eS;refine zco 56 (walk_spec (take_parse gb _) d l s zo (L:=boxC gb 40 [.slice none 0 0] :: accC (.slice none 0 0) 22 eV [] :: frzC eS [] [] :: _) (Sep.sub hS (.c zr (.c zr (.c zr Sub.rfl')))) ⟨_,_,rfl⟩) ?_;rw [goN_true];rintro vb wb ⟨rfl,L3,⟨tv,vs,rfl⟩,hS⟩;simp only [Bool.false_eq_true,if_false,List.nil_append] at hS ⊢)|(refine G.drt mixed fun K hK wd hxd=>?_;have hS:=Sep.ext ‹_› hxd)|with_reducible refine OT_leaf ?_|(with_reducible refine OT_tail fun K2 hK2=>?_)|(refine kO ?_;clear hK2 K2;intro wd hxd;have hS:=Sep.ext ‹_› hxd)|with_reducible refine OT_br fun K2 hK2=>?_|(refine hK2 _ _ ?_ ?_<;>clear hK2 K2)|refine G.drg mixed fun K hK=>?_|(refine G.cond (by simp only [push_cast,↓reduceIte,zq1,zq2,zq3,zq4,zq5,List.map_toArray];rfl) ?_ ?_<;>intro hc<;>(try simp only [hcs,reduceCtorEq] at hc)<;>(try (exfalso;omega))))
 all_goals
  refine rM ?_
  exact ⟨_,_,rfl,Sep.sub hS (.c zr (.c zr Sub.nil0))⟩
theorem parse_spec2 (d:Dl) (l:Lm) (s:Str) (w:World) (hl:s.length≤900000) {R:Rs} {n:Nat} (hR:walkM d l s=R) (hn:R.rs.length=n:=by rfl) :
 Ret Tryz.prog 38 #[(.agg #[U d.dl,U d.q,I d.e]),(.agg #[I l.F,I l.N,I l.R,.bool l.U]),S s] w fun res w'=>∃ v vs,res=.tuple #[v,.agg #[I R.k,I R.a]]∧vs.length=n∧Sep w w' [accC v 22 eV vs,frzC eS vs (R.rs.map (·.1))]:=by
 subst hR;subst hn
 refine (parse_spec d l s w hl).mono ?_
 rintro res w' ⟨v,vs,h1,hS⟩
 have hl:=hS.frzLen (.t .h)
 rw [List.length_map] at hl
 exact ⟨v,vs,h1,hl,hS⟩
theorem right_rt {d:Dl} (h:rightD d=true):Rt d:=by
 unfold rightD mayB at h
 simp only [Bool.and_eq_true,decide_eq_true_eq,Bool.not_eq_true',decide_eq_false_iff_not] at h
 obtain ⟨⟨⟨h1,h2⟩,h3⟩,h4⟩:=h
 exact ⟨h2.2.1,h2.2.2,h1.2.1,h1.2.2,h3⟩
theorem fits_lm {l:Lm} (h:fitsL l=true):1≤l.F∧1≤l.N∧0≤l.R∧l.R≤2147483648:=by
 unfold fitsL mayL at h
 simp only [Bool.and_eq_true,decide_eq_true_eq] at h
 omega
def wideL:Lm:=⟨2147483648,2147483648,2147483648,false⟩
section
variable {d:Dl} {l:Lm} {m:Mk} {e:Ev} {q st:Int} {b:UInt8}
structure LInv (l:Lm) (st:Int) (m:Mk):Prop where
 fl:(m.fl.length:Int)≤l.F
 rc:∀ x∈m.rc,(x.length:Int)≤l.F
 out:st=0∨st=6→m.bg=m.ct∧m.rc=[]∧m.fl=[]
 inn:st=1∨st=2∨st=3∨st=4→m.bg=m.ct+1∧(m.rc.length:Int) < l.N
 cr:st=5→m.bg=m.ct+1∧m.fl=[]∧1≤m.rc.length∧(m.rc.length:Int)≤l.N∧(l.U=true→0 < m.ct→m.rc.length=m.wd)
 sts:st=0∨st=1∨st=2∨st=3∨st=4∨st=5∨st=6
 bg:(m.bg:Int)≤l.R
def RecOK (l:Lm) (m:Mk) (r:List Str):Prop:=1≤r.length∧(r.length:Int)≤l.N∧(∀ x∈r,(x.length:Int)≤l.F)∧(l.U=true→0 < m.ct→r.length=m.wd)
theorem put_rc' (m:Mk):m.put.rc=m.rc++[m.fl]:=rfl
def StepOK (l:Lm) (m:Mk) (x:Int×Mk×Option (List Str)):Prop :=
 LInv l x.1 x.2.1∧(x.2.2=none→x.2.1.ct=m.ct∧x.2.1.wd=m.wd)∧(∀ r,x.2.2=some r→RecOK l m r∧x.2.1.ct=m.ct+1∧x.2.1.wd=if m.ct=0 then r.length else m.wd)
theorem StepOK.go {m':Mk} (h:LInv l st m') (h1:m'.ct=m.ct) (h2:m'.wd=m.wd):StepOK l m (st,m',none):=⟨h,fun _=>⟨h1,h2⟩,fun r hr=>by simp at hr⟩
theorem str_no (h:¬ (m.strict l=true∧m.rc.length+1≠m.wd)):l.U=true→0 < m.ct→m.rc.length+1=m.wd:=by
 intro hU h0
 apply Decidable.byContradiction
 intro hn
 exact h ⟨by unfold Mk.strict;rw [hU,decide_eq_true h0];rfl,hn⟩
theorem out_ok {r:List Str} {m1:Mk} (hr:RecOK l m r) (h1:m1.ct=m.ct) (h2:m1.wd=m.wd) (h3:m1.rc=r) (h4:m1.fl=[]) (h5:m1.bg=m.ct+1) (hR:(m1.bg:Int)≤l.R) (hF:0≤l.F):StepOK l m (0,m1.out,some r):=by
 refine ⟨⟨by show (m1.fl.length:Int)≤l.F;rw [h4];simpa using hF,fun x hx=>by simp [Mk.out] at hx,fun _=>⟨by show m1.bg=m1.ct+1;omega,rfl,h4⟩,fun h=>by omega,fun h=>by omega,.inl rfl,hR⟩,fun h=>by simp at h,fun r' hr'=>?_⟩
 simp only [Option.some.injEq] at hr'
 subst hr'
 refine ⟨hr,by show m1.ct+1=m.ct+1;omega,?_⟩
 show (if m1.ct=0 then m1.rc.length else m1.wd)=_
 rw [h1,h2,h3]
theorem linv_aft (hd:Rt d) (hF:1≤l.F) (hN:1≤l.N) (hs:aft st) (hi:LInv l st m) {x:Int×Mk×Option (List Str)} (h:stepR d l st m b=.ok x):StepOK l m x:=by
 have hin:=hi.inn (by rcases hs with h|h|h<;>simp [h])
 have hfl:=hi.fl
 have hbg:=hi.bg
 have hrcp:∀ x∈m.put.rc,(x.length:Int)≤l.F:=by
  intro x hx
  rw [put_rc'] at hx
  rcases List.mem_append.1 hx with hx|hx
  ·exact hi.rc x hx
  ·simp at hx;subst hx;exact hfl
 by_cases h1:(b.toNat:Int)=d.dl
 ·rw [a_d hd hs h1] at h
  split at h
  ·simp at h
  ·split at h
   ·simp at h
   ·rename_i g1 g2
    injection h with h;subst h
    refine StepOK.go ⟨by show (0:Int)≤l.F;omega,hrcp,fun h=>by omega,fun _=>⟨hin.1,?_⟩,fun h=>by omega,.inr (.inl rfl),hbg⟩ rfl rfl
    rw [put_rc',List.length_append];simp;simp at g1;omega
 ·by_cases h2:(b.toNat:Int)=13
  ·rw [a_13 hd hs h2] at h
   split at h
   ·simp at h
   ·split at h
    ·simp at h
    ·rename_i g1 g2
     injection h with h;subst h
     refine StepOK.go ⟨by show (0:Int)≤l.F;omega,hrcp,fun h=>by omega,fun h=>by omega,fun _=>⟨hin.1,rfl,?_,?_,?_⟩,.inr (.inr (.inr (.inr (.inr (.inl rfl))))),hbg⟩ rfl rfl
     ·rw [put_rc',List.length_append];simp
     ·rw [put_rc',List.length_append];simp;omega
     ·intro hU h0
      rw [put_rc',List.length_append]
      exact str_no g2 hU h0
  ·by_cases h3:(b.toNat:Int)=10
   ·rw [a_10 hd hs h3] at h
    split at h
    ·simp at h
    ·split at h
     ·simp at h
     ·rename_i g1 g2
      injection h with h;subst h
      refine out_ok ⟨by simp,by simp;omega,hrcp,fun hU h0=>by rw [List.length_append];exact str_no g2 hU h0⟩ rfl rfl rfl rfl hin.1 hbg zo
   ·by_cases h4:(b.toNat:Int)=d.q
    ·rcases hs with rfl|rfl|rfl
     ·rw [s1q hd h4] at h
      injection h with h;subst h
      exact StepOK.go ⟨hfl,hi.rc,fun h=>by omega,fun _=>hin,fun h=>by omega,.inr (.inr (.inr (.inl rfl))),hbg⟩ rfl rfl
     ·rw [s2q hd h4] at h;simp at h
     ·rw [s4q hd h4] at h
      split at h
      ·simp at h
      ·rename_i g1
       injection h with h;subst h
       exact StepOK.go ⟨by simp;omega,hi.rc,fun h=>by omega,fun _=>hin,fun h=>by omega,.inr (.inr (.inr (.inl rfl))),hbg⟩ rfl rfl
    ·rcases hs with hs|hs|hs
     ·rw [s12x (.inl hs) h4 h1 h2 h3] at h
      split at h
      ·simp at h
      ·rename_i g1
       injection h with h;subst h
       exact StepOK.go ⟨by simp;omega,hi.rc,fun h=>by omega,fun _=>hin,fun h=>by omega,.inr (.inr (.inl rfl)),hbg⟩ rfl rfl
     ·rw [s12x (.inr hs) h4 h1 h2 h3] at h
      split at h
      ·simp at h
      ·rename_i g1
       injection h with h;subst h
       exact StepOK.go ⟨by simp;omega,hi.rc,fun h=>by omega,fun _=>hin,fun h=>by omega,.inr (.inr (.inl rfl)),hbg⟩ rfl rfl
     ·subst hs
      rw [s4b h4 h1 h2 h3] at h;simp at h
theorem linv_step (hd:Rt d) (hF:1≤l.F) (hN:1≤l.N) (hi:LInv l st m) {x:Int×Mk×Option (List Str)} (h:stepR d l st m b=.ok x):StepOK l m x:=by
 have hfl:=hi.fl
 have hbg:=hi.bg
 rcases hi.sts with rfl|rfl|rfl|rfl|rfl|rfl|rfl
 ·have ho:=hi.out (.inl rfl)
  by_cases h2:(b.toNat:Int)=13
  ·rw [s0_13 hd h2] at h
   split at h
   ·simp at h
   ·injection h with h;subst h
    exact StepOK.go ⟨hfl,hi.rc,fun _=>ho,fun h=>by omega,fun h=>by omega,.inr (.inr (.inr (.inr (.inr (.inr rfl))))),hbg⟩ rfl rfl
  ·by_cases h3:(b.toNat:Int)=10
   ·rw [s0_10 hd h3] at h
    split at h
    ·simp at h
    ·injection h with h;subst h
     exact StepOK.go ⟨hfl,hi.rc,fun _=>ho,fun h=>by omega,fun h=>by omega,.inl rfl,hbg⟩ rfl rfl
   ·rw [s0b h2 h3] at h
    split at h
    ·simp at h
    ·rename_i g1
     exact linv_aft (m:={ m with bg:=m.bg+1 }) hd hF hN (.inl rfl) ⟨hfl,hi.rc,fun h=>by omega,fun _=>⟨by simp only;omega,by show (m.rc.length:Int) < l.N;rw [ho.2.1];simp;omega⟩,fun h=>by omega,.inr (.inl rfl),by simp only;omega⟩ h
 ·exact linv_aft hd hF hN (.inl rfl) hi h
 ·exact linv_aft hd hF hN (.inr (.inl rfl)) hi h
 ·have hin:=hi.inn (.inr (.inr (.inl rfl)))
  by_cases h4:(b.toNat:Int)=d.q
  ·rw [s3q h4] at h
   injection h with h;subst h
   exact StepOK.go ⟨hfl,hi.rc,fun h=>by omega,fun _=>hin,fun h=>by omega,.inr (.inr (.inr (.inr (.inl rfl)))),hbg⟩ rfl rfl
  ·rw [s3x h4] at h
   split at h
   ·simp at h
   ·injection h with h;subst h
    exact StepOK.go ⟨by simp;omega,hi.rc,fun h=>by omega,fun _=>hin,fun h=>by omega,.inr (.inr (.inr (.inl rfl))),hbg⟩ rfl rfl
 ·exact linv_aft hd hF hN (.inr (.inr rfl)) hi h
 ·have hc:=hi.cr rfl
  by_cases h3:(b.toNat:Int)=10
  ·rw [s5_10 h3] at h
   injection h with h;subst h
   exact out_ok ⟨hc.2.2.1,hc.2.2.2.1,hi.rc,hc.2.2.2.2⟩ rfl rfl rfl hc.2.1 hc.1 hbg zo
  ·rw [s56_x (.inl rfl) h3] at h;simp at h
 ·have ho:=hi.out (.inr rfl)
  by_cases h3:(b.toNat:Int)=10
  ·rw [s6_10 h3] at h
   injection h with h;subst h
   exact StepOK.go ⟨hfl,hi.rc,fun _=>ho,fun h=>by omega,fun h=>by omega,.inl rfl,hbg⟩ rfl rfl
  ·rw [s56_x (.inr rfl) h3] at h;simp at h
theorem linv_end (hi:LInv l st m) {r:List Str} (h:endR l st m=.ok (some r)):RecOK l m r∧m.ct < m.bg:=by
 have ha:aft st→RecOK l m r∧m.ct < m.bg:=by
  intro hs
  have hin:=hi.inn (by rcases hs with h|h|h<;>simp [h])
  rw [a_end hs] at h
  split at h
  ·simp at h
  ·rename_i g
   simp only [Except.ok.injEq,Option.some.injEq] at h
   subst h
   refine ⟨⟨by simp,by simp;omega,?_,fun hU h0=>by rw [List.length_append];exact str_no g hU h0⟩,by omega⟩
   intro x hx
   rcases List.mem_append.1 hx with hx|hx
   ·exact hi.rc x hx
   ·simp at hx;subst hx;exact hi.fl
 rcases hi.sts with rfl|rfl|rfl|rfl|rfl|rfl|rfl
 ·rw [s0_e] at h;simp at h
 ·exact ha (.inl rfl)
 ·exact ha (.inr (.inl rfl))
 ·rw [s3_e] at h;simp at h
 ·exact ha (.inr (.inr rfl))
 ·rw [s56_e (.inl rfl)] at h;simp at h
 ·rw [s56_e (.inr rfl)] at h;simp at h
def AllOK (l:Lm) (n:Nat) (r:List Str):Prop:=1≤r.length∧(r.length:Int)≤l.N∧(∀ x∈r,(x.length:Int)≤l.F)∧(l.U=true→r.length=n)
theorem wrun_ok (hd:Rt d) (hF:1≤l.F) (hN:1≤l.N):∀ (t:Str) (q st:Int) (m:Mk) (p:Nat),LInv l st m→(wrun d l q st m p t).k=0 →
 ∃ n,(0 < m.ct→n=m.wd)∧(m.ct=0→∀ x,(wrun d l q st m p t).rs.head?=some x→n=x.1.length)∧(∀ x∈(wrun d l q st m p t).rs,AllOK l n x.1)∧((m.ct+(wrun d l q st m p t).rs.length:Nat):Int)≤l.R:=by
 intro t
 induction t with
 | nil =>
   intro q st m p hi h
   have hR:=hi.bg
   have hct:m.ct≤m.bg:=by
    rcases hi.sts with h|h|h|h|h|h|h
    ·have:=hi.out (.inl h);omega
    ·have:=hi.inn (.inl h);omega
    ·have:=hi.inn (.inr (.inl h));omega
    ·have:=hi.inn (.inr (.inr (.inl h)));omega
    ·have:=hi.inn (.inr (.inr (.inr h)));omega
    ·have:=hi.cr h;omega
    ·have:=hi.out (.inr h);omega
   rw [wrun_nil] at h ⊢
   cases he:endW l q st m with
   | error k=>rw [he] at h;have:=endW_err he;simp at h;omega
   | ok r =>
     unfold endW at he
     split at he
     ·simp at he
     ·cases r with
      | none=>exact ⟨m.wd,fun _=>rfl,fun _ x hx=>by simp [oneR] at hx,fun x hx=>by simp [oneR] at hx,by simp [oneR];omega⟩
      | some r =>
        obtain ⟨h1,h2⟩:=linv_end hi he
        refine ⟨if m.ct=0 then r.length else m.wd,fun h0=>by rw [if_neg zo],fun h0 x hx=>?_,fun x hx=>?_,by simp [oneR];omega⟩
        ·simp [oneR] at hx;subst hx;rw [if_pos h0]
        ·simp [oneR] at hx;subst hx
         refine ⟨h1.1,h1.2.1,h1.2.2.1,fun hU=>?_⟩
         by_cases h0:m.ct=0
         ·rw [if_pos h0]
         ·rw [if_neg h0];exact h1.2.2.2 hU zo
 | cons b t ih =>
   intro q st m p hi h
   rw [wrun_cons] at h ⊢
   cases he:stepW d l q st m b with
   | error k=>rw [he] at h;have:=stepW_err he;simp at h;omega
   | ok x =>
     rw [he] at h
     simp only at h ⊢
     have hs:stepR d l st m b=.ok (x.2.1,x.2.2.1,x.2.2.2):=by
      unfold stepW at he
      split at he
      ·simp at he
      ·split at he
       ·simp at he
       ·rename_i y hy
        injection he with he
        rw [hy,←he]
     obtain ⟨g1,g2,g3⟩:=linv_step hd hF hN hi hs
     simp only at g1 g2 g3
     obtain ⟨n,n1,n2,n3,n4⟩:=ih x.1 x.2.1 x.2.2.1 (p+1) g1 h
     cases ho:x.2.2.2 with
     | none =>
       obtain ⟨c1,c2⟩:=g2 ho
       simp only [Rs.pre,oneR,List.nil_append]
       exact ⟨n,fun h0=>by rw [n1 zo,c2],fun h0=>n2 zo,n3,by rw [c1] at n4;exact n4⟩
     | some r =>
       obtain ⟨c0,c1,c2⟩:=g3 r ho
       simp only [Rs.pre,oneR,List.singleton_append]
       have hn:n=if m.ct=0 then r.length else m.wd:=by rw [n1 zo,c2]
       refine ⟨n,fun h0=>by rw [hn,if_neg zo],fun h0 y hy=>?_,fun y hy=>?_,by rw [c1] at n4;simp only [List.length_cons];omega⟩
       ·simp at hy;subst hy;rw [hn,if_pos h0]
       ·rcases List.mem_cons.1 hy with rfl|hy
        ·refine ⟨c0.1,c0.2.1,c0.2.2.1,fun hU=>?_⟩
         rw [hn]
         by_cases h0:m.ct=0
         ·rw [if_pos h0]
         ·rw [if_neg h0];exact c0.2.2.2 hU zo
        ·exact n3 y hy
end
theorem wrun_len (d:Dl) (l:Lm):∀ (t:Str) (q st:Int) (m:Mk) (p:Nat),(wrun d l q st m p t).rs.length≤t.length+1:=by
 intro t
 induction t with
 | nil =>
   intro q st m p
   rw [wrun_nil]
   cases h:endW l q st m with
   | error k=>simp
   | ok r=>cases r<;>simp [oneR]
 | cons b t ih =>
   intro q st m p
   rw [wrun_cons]
   cases h:stepW d l q st m b with
   | error k=>simp
   | ok x =>
     have:=ih x.1 x.2.1 x.2.2.1 (p+1)
     cases hx:x.2.2.2<;>simp [Rs.pre,oneR,hx]<;>omega
theorem parM_len (d:Dl) (l:Lm) (s:Str):(parM d l s).rs.length≤s.length+1:=by
 have h1:=wrun_len d l (stripM s) 0 0 {} (s.length - (stripM s).length)
 have h2:=(strip_drop s).2
 unfold parM
 omega
def c72:MC:=(Z (yr [qq 0 (.alc 81 [(.int .i64 0),(.int .i64 0),(.int .i64 0),(.bool false)])]) (Z (yr [qq 1 (.bld [(.int .i64 0),(.int .i64 0),(.int .i64 0),(.bool false)] [⟨0,⟨1,(ki 2147483648)⟩⟩,⟨1,⟨1,(ki 2147483648)⟩⟩,⟨2,⟨1,(ki 2147483648)⟩⟩]),qn (.st 4 (Y 0) (Y 1))]) .ret))
theorem wide_spec (w:World):Pu Tryz.prog 72 #[] w (.agg #[I 2147483648,I 2147483648,I 2147483648,.bool false]):=by
 refine En 2 c72 Tryz.func72 ?_
 have hS:=Sep.start w
 repeat' (first|refine G.reg fun K hK=>?_|(refine kM ?_;clear hK K)|refine sA ?_|(refine zalc ?_;intro gb wb hS)|((with_reducible refine gSt ?_);refine zs2 ?_;intro wb hS))
 all_goals
  refine rM ?_
  exact Sep.xt ‹_›
theorem wpar_spec (d:Dl) (s:Str) (w:World) (hl:s.length≤900000) (hr:rightD d=true) :
 Ret Tryz.prog 38 #[(.agg #[U d.dl,U d.q,I d.e]),.agg #[I 2147483648,I 2147483648,I 2147483648,.bool false],S s] w fun res w'=>∃ v vs,res=.tuple #[v,.agg #[I (parM d wideL s).k,I (parM d wideL s).a]]∧vs.length=(parM d wideL s).rs.length∧Sep w w' [accC v 22 eV vs,frzC eS vs ((parM d wideL s).rs.map Prod.fst)] :=
 parse_spec2 d wideL s w hl (by unfold walkM;rw [if_neg (by rw [hr];decide),if_neg zd])
def spW (d:Dl) (l:Lm) (q st:Int) (m:Mk) (fr to p:Nat):Str→List (Nat×Nat)
 | []=>match endW l q st m with
   | .ok (some _)=>[(fr,p)]
   | _=>[]
 | b :: t=>match stepW d l q st m b with
   | .error _=>[]
   | .ok x=>(if x.2.2.2.isSome=true then [(if (scM d st b).1.b=true then p else fr,if (scM d st b).1.l=true then p else to)] else []) ++
    spW d l x.1 x.2.1 x.2.2.1 (if (scM d st b).1.b=true then p else fr) (if (scM d st b).1.l=true then p else to) (p+1) t
theorem spW_len (d:Dl) (l:Lm):∀ (t:Str) (q st:Int) (m:Mk) (fr to p:Nat),(spW d l q st m fr to p t).length=(wrun d l q st m p t).rs.length:=by
 intro t
 induction t with
 | nil =>
   intro q st m fr to p
   rw [spW,wrun_nil]
   cases h:endW l q st m with
   | error k=>rfl
   | ok r=>cases r<;>rfl
 | cons b t ih =>
   intro q st m fr to p
   rw [spW,wrun_cons]
   cases h:stepW d l q st m b with
   | error k=>rfl
   | ok x =>
     simp only [List.length_append,Rs.pre,ih]
     cases hx:x.2.2.2<;>simp [oneR]
theorem wrun_ends (d:Dl) (l:Lm):∀ (t:Str) (q st:Int) (m:Mk) (p:Nat),(∀ x∈(wrun d l q st m p t).rs,p≤x.2∧x.2≤p+t.length∧((wrun d l q st m p t).k≠0→x.2 < (wrun d l q st m p t).a)) ∧
 ((wrun d l q st m p t).k≠0→p≤(wrun d l q st m p t).a∧(wrun d l q st m p t).a≤p+t.length):=by
 intro t
 induction t with
 | nil =>
   intro q st m p
   rw [wrun_nil]
   cases h:endW l q st m with
   | error k=>exact ⟨fun x hx=>by simp at hx,fun _=>⟨Nat.le_refl _,by simp⟩⟩
   | ok r =>
     refine ⟨fun x hx=>?_,fun h=>absurd rfl h⟩
     have:=one_end x hx
     exact ⟨by omega,by simp;omega,fun h=>absurd rfl h⟩
 | cons b t ih =>
   intro q st m p
   rw [wrun_cons]
   cases h:stepW d l q st m b with
   | error k=>exact ⟨fun x hx=>by simp at hx,fun _=>⟨Nat.le_refl _,by simp⟩⟩
   | ok x =>
     obtain ⟨h1,h2⟩:=ih x.1 x.2.1 x.2.2.1 (p+1)
     simp only [Rs.pre,List.length_cons]
     refine ⟨fun y hy=>?_,fun hk=>?_⟩
     ·rcases List.mem_append.1 hy with hy|hy
      ·have:=one_end y hy
       refine ⟨by omega,by omega,fun hk=>?_⟩
       have:=h2 hk;omega
      ·have:=h1 y hy
       exact ⟨by omega,by omega,this.2.2⟩
     ·have:=h2 hk;omega
theorem stepW_sc {d:Dl} {l:Lm} {q st:Int} {m:Mk} {b:UInt8} {x:Int×Int×Mk×Option (List Str)} (h:stepW d l q st m b=.ok x):(scM d st b).2.2=0∧x.2.1=(scM d st b).2.1∧(x.2.2.2.isSome=(scM d st b).1.r):=by
 unfold stepW at h
 split at h
 ·simp at h
 ·split at h
  ·simp at h
  ·rename_i y hy
   injection h with h;subst h
   unfold stepR at hy
   split at hy
   ·simp at hy
   ·rename_i h0
    split at hy
    ·simp at hy
    ·rename_i z hz
     injection hy with hy;subst hy
     refine ⟨by omega,rfl,?_⟩
     unfold takeM at hz
     split at hz
     ·simp at hz
     ·split at hz
      ·rename_i hr;injection hz with hz;subst hz;simp [hr]
      ·rename_i hr;injection hz with hz;subst hz;simpa using hr
theorem endW_rec {l:Lm} {q st:Int} {m:Mk} {r:List Str} (h:endW l q st m=.ok (some r)):aft st:=by
 unfold endW at h
 split at h
 ·simp at h
 ·unfold endR at h
  split at h
  ·simp at h
  ·split at h
   ·simp at h
   ·rename_i z hz
    simp only [Except.ok.injEq] at h
    unfold takeM at hz
    split at hz
    ·simp at hz
    ·split at hz
     ·rename_i hr
      unfold closeM at hr
      unfold aft
      by_cases hs:st=1∨st=2∨st=4
      ·exact hs
      ·rw [if_neg hs] at hr
       split at hr
       ·simp at hr
       ·split at hr<;>simp at hr
     ·injection hz with hz;subst hz;simp at h
def inR (st:Int):Prop:=st=1∨st=2∨st=3∨st=4
def outR (st:Int):Prop:=st=0∨st=6
theorem sc_kinds (d:Dl) (st:Int) (b:UInt8) (hs:outR st∨inR st∨st=5) (he:(scM d st b).2.2=0) :
 (outR st→(scM d st b).1.l=false∧(scM d st b).1.r=false∧((scM d st b).1.b=false∧outR (scM d st b).2.1∨(scM d st b).1.b=true∧inR (scM d st b).2.1)) ∧
 (inR st→(scM d st b).1.b=false∧((scM d st b).1.l=false∧(scM d st b).1.r=false∧inR (scM d st b).2.1∨(scM d st b).1.l=true∧(scM d st b).1.r=false∧(scM d st b).2.1=5∨(scM d st b).1.l=true∧(scM d st b).1.r=true∧outR (scM d st b).2.1)) ∧
 (st=5→(scM d st b).1.b=false∧(scM d st b).1.l=false∧(scM d st b).1.r=true∧outR (scM d st b).2.1):=by
 unfold outR inR at *
 refine ⟨fun h=>?_,fun h=>?_,fun h=>?_⟩
 ·rcases h with rfl|rfl
  ·unfold scM startM at he ⊢
   simp only [if_true] at he ⊢
   repeat' split at he
   all_goals simp_all
  ·by_cases hb:(b.toNat:Int)=10
   ·simp [scM,hb]
   ·simp [scM,hb] at he
 ·rcases h with rfl|rfl|rfl|rfl
  ·unfold scM inM at he ⊢
   simp only [show ¬ ((1:Int)=0) by decide,show ((1:Int)=1∨(1:Int)=2∨(1:Int)=4) by decide,if_true,if_false] at he ⊢
   repeat' split at he
   all_goals simp_all
  ·unfold scM inM at he ⊢
   simp only [show ¬ ((2:Int)=0) by decide,show ((2:Int)=1∨(2:Int)=2∨(2:Int)=4) by decide,if_true,if_false] at he ⊢
   repeat' split at he
   all_goals simp_all
  ·by_cases hb:(b.toNat:Int)=d.q<;>simp [scM,hb]
  ·unfold scM inM at he ⊢
   simp only [show ¬ ((4:Int)=0) by decide,show ((4:Int)=1∨(4:Int)=2∨(4:Int)=4) by decide,if_true,if_false] at he ⊢
   repeat' split at he
   all_goals simp_all
 ·subst h
  by_cases hb:(b.toNat:Int)=10
  ·simp [scM,hb]
  ·simp [scM,hb] at he
theorem spW_head (d:Dl) (l:Lm):∀ (t:Str) (q st:Int) (m:Mk) (fr to p:Nat) (x:Nat×Nat) (r:List (Nat×Nat)),inR st∨st=5→spW d l q st m fr to p t=x :: r→x.1=fr∧(st=5→x.2=to):=by
 intro t
 induction t with
 | nil =>
   intro q st m fr to p x r hs h
   rw [spW] at h
   split at h
   ·rename_i r' he
    simp only [List.cons.injEq] at h
    refine ⟨by rw [←h.1],fun h5=>?_⟩
    have:=endW_rec he
    unfold aft at this
    omega
   ·simp at h
 | cons b t ih =>
   intro q st m fr to p x r hs h
   rw [spW] at h
   cases he:stepW d l q st m b with
   | error k=>rw [he] at h;simp at h
   | ok y =>
     rw [he] at h
     simp only at h
     obtain ⟨e0,e1,e2⟩:=stepW_sc he
     obtain ⟨_,k2,k3⟩:=sc_kinds d st b (.inr hs) e0
     rcases hs with hs|hs
     ·obtain ⟨hb,hk⟩:=k2 hs
      rw [hb] at h
      simp only [Bool.false_eq_true,if_false] at h
      have h5:¬ st=5:=by unfold inR at hs;omega
      rcases hk with ⟨hl,hr,hi⟩|⟨hl,hr,hi⟩|⟨hl,hr,hi⟩
      ·rw [e2,hr,hl] at h
       simp only [Bool.false_eq_true,if_false,List.nil_append] at h
       exact ⟨(ih _ _ _ _ _ _ x r (by rw [e1];exact .inl hi) h).1,fun h=>absurd h h5⟩
      ·rw [e2,hr,hl] at h
       simp only [Bool.false_eq_true,if_false,if_true,List.nil_append] at h
       exact ⟨(ih _ _ _ _ _ _ x r (by rw [e1];exact .inr hi) h).1,fun h=>absurd h h5⟩
      ·rw [e2,hr] at h
       simp only [if_true,List.singleton_append,List.cons.injEq] at h
       exact ⟨by rw [←h.1],fun h=>absurd h h5⟩
     ·obtain ⟨hb,hl,hr,hi⟩:=k3 hs
      rw [e2,hb,hl,hr] at h
      simp only [Bool.false_eq_true,if_false,if_true,List.singleton_append,List.cons.injEq] at h
      exact ⟨by rw [←h.1],fun _=>by rw [←h.1]⟩
def spM (d:Dl) (s:Str):List (Nat×Nat):=spW d wideL 0 0 {} 0 0 (s.length - (stripM s).length) (stripM s)
theorem spM_len (d:Dl) (s:Str):(spM d s).length=(parM d wideL s).rs.length:=spW_len _ _ _ _ _ _ _ _ _
def chn:Nat→List (Nat×Nat)→Nat→Prop
 | lo,[],hi=>lo≤hi
 | lo,x :: r,hi=>lo≤x.1∧x.1≤x.2∧chn x.2 r hi
theorem chn_lo {a b hi:Nat} {l:List (Nat×Nat)} (h:chn b l hi) (hab:a≤b):chn a l hi:=by
 cases l with
 | nil=>simp only [chn] at *;omega
 | cons x r=>simp only [chn] at *;exact ⟨by omega,h.2⟩
def endR27 (R:Rs) (n:Nat):Nat:=if R.k=0 then n else R.a
theorem spW_chn (d:Dl) (l:Lm):∀ (t:Str) (q st:Int) (m:Mk) (fr to p:Nat),
 (outR st→chn p (spW d l q st m fr to p t) (endR27 (wrun d l q st m p t) (p+t.length))) ∧
 (inR st→fr≤p→chn fr (spW d l q st m fr to p t) (endR27 (wrun d l q st m p t) (p+t.length))) ∧
 (st=5→fr≤to→to≤p→chn fr (spW d l q st m fr to p t) (endR27 (wrun d l q st m p t) (p+t.length))):=by
 intro t
 induction t with
 | nil =>
   intro q st m fr to p
   have hw:=(wrun_ends d l [] q st m p).2
   have hle:p≤endR27 (wrun d l q st m p []) (p+([]:Str).length):=by
    unfold endR27
    split
    ·simp
    ·exact (hw ‹_›).1
   have hge:∀ r,endW l q st m=.ok r→endR27 (wrun d l q st m p []) (p+([]:Str).length)=p:=by
    intro r h
    unfold endR27
    rw [wrun_nil,h];simp
   rw [spW]
   split
   ·rename_i r he
    have ha:=endW_rec he
    rw [hge _ he]
    unfold aft at ha
    refine ⟨fun h=>by unfold outR at h;omega,fun h hf=>⟨Nat.le_refl _,hf,Nat.le_refl _⟩,fun h=>by omega⟩
   ·exact ⟨fun _=>hle,fun _ hf=>Nat.le_trans hf hle,fun _ h1 h2=>by simp only [chn];omega⟩
 | cons b t ih =>
   intro q st m fr to p
   have hw:=(wrun_ends d l (b :: t) q st m p).2
   have hle:p≤endR27 (wrun d l q st m p (b :: t)) (p+(b :: t).length):=by
    unfold endR27
    split
    ·simp
    ·exact (hw ‹_›).1
   rw [spW]
   cases he:stepW d l q st m b with
   | error k=>exact ⟨fun _=>hle,fun _ hf=>Nat.le_trans hf hle,fun _ h1 h2=>by simp only [chn];omega⟩
   | ok x =>
     obtain ⟨e0,e1,e2⟩:=stepW_sc he
     have hend:endR27 (wrun d l q st m p (b :: t)) (p+(b :: t).length)=endR27 (wrun d l x.1 x.2.1 x.2.2.1 (p+1) t) (p+1+t.length):=by
      rw [wrun_cons,he]
      simp only [endR27,Rs.pre,List.length_cons]
      rw [show p+(t.length+1)=p+1+t.length by omega]
      rfl
     rw [hend]
     simp only
     generalize hE:endR27 (wrun d l x.1 x.2.1 x.2.2.1 (p+1) t) (p+1+t.length)=H
     have hih:=fun fr to=>ih x.1 x.2.1 x.2.2.1 fr to (p+1)
     rw [hE] at hih
     rw [e1,e2] at *
     refine ⟨fun hs=>?_,fun hs hf=>?_,fun hs h1 h2=>?_⟩
     ·obtain ⟨hl,hr,h⟩:=(sc_kinds d st b (.inl hs) e0).1 hs
      rw [hl,hr]
      simp only [Bool.false_eq_true,if_false,List.nil_append]
      rcases h with ⟨hb,ho⟩|⟨hb,hi⟩
      ·rw [hb]
       simp only [Bool.false_eq_true,if_false]
       exact chn_lo ((hih fr to).1 ho) zo
      ·rw [hb]
       simp only [if_true]
       exact (hih p to).2.1 hi zo
     ·obtain ⟨hb,h⟩:=(sc_kinds d st b (.inr (.inl hs)) e0).2.1 hs
      rw [hb]
      simp only [Bool.false_eq_true,if_false]
      rcases h with ⟨hl,hr,hi⟩|⟨hl,hr,hi⟩|⟨hl,hr,hi⟩
      ·rw [hl,hr]
       simp only [Bool.false_eq_true,if_false,List.nil_append]
       exact (hih fr to).2.1 hi zo
      ·rw [hl,hr]
       simp only [Bool.false_eq_true,if_false,if_true,List.nil_append]
       exact (hih fr p).2.2 hi hf zo
      ·rw [hl,hr]
       simp only [if_true,List.singleton_append]
       exact ⟨Nat.le_refl _,hf,chn_lo ((hih fr p).1 hi) zo⟩
     ·obtain ⟨hb,hl,hr,hi⟩:=(sc_kinds d st b (.inr (.inr hs)) e0).2.2 hs
      rw [hb,hl,hr]
      simp only [Bool.false_eq_true,if_false,if_true,List.singleton_append]
      exact ⟨Nat.le_refl _,h1,chn_lo ((hih fr to).1 hi) zo⟩
theorem chn_le {hi:Nat}:∀ {l:List (Nat×Nat)} {lo:Nat},chn lo l hi→lo≤hi
 | [],_,h=>h
 | _ :: _,_,h=>by have:=chn_le h.2.2;have:=h.1;have:=h.2.1;omega
theorem chn_at {hi:Nat}:∀ {l:List (Nat×Nat)} {lo:Nat} (i:Nat),chn lo l hi→i < l.length→lo≤(l.getD i default).1∧(l.getD i default).1≤(l.getD i default).2∧chn (l.getD i default).2 (l.drop (i+1)) hi
 | [],_,_,_,h=>by simp at h
 | x :: r,lo,0,h,_=>⟨h.1,h.2.1,h.2.2⟩
 | x :: r,lo,i+1,h,hi'=>by
   have:=chn_at (l:=r) i h.2.2 (by simpa using hi')
   have h1:=h.1;have h2:=h.2.1
   simp only [List.getD_cons_succ,List.drop_succ_cons]
   exact ⟨by omega,this.2⟩
structure Spans (SP:List (Nat×Nat)) (H n:Nat):Prop where
 ord:∀ i j:Nat,i < j→j < SP.length→(SP.getD i default).2≤(SP.getD j default).1
 one:∀ i:Nat,i < SP.length→(SP.getD i default).1≤(SP.getD i default).2∧(SP.getD i default).2≤H
 hn:H≤n
theorem spM_spans (d:Dl) (s:Str):Spans (spM d s) (endR27 (parM d wideL s) s.length) s.length:=by
 have hc:=(spW_chn d wideL (stripM s) 0 0 {} 0 0 (s.length - (stripM s).length)).1 (.inl rfl)
 obtain ⟨h1,h2⟩:=strip_drop s
 rw [show s.length - (stripM s).length+(stripM s).length=s.length by omega] at hc
 have e1:spW d wideL 0 0 {} 0 0 (s.length - (stripM s).length) (stripM s)=spM d s:=rfl
 have e2:wrun d wideL 0 0 {} (s.length - (stripM s).length) (stripM s)=parM d wideL s:=rfl
 have hend:=(wrun_ends d wideL (stripM s) 0 0 {} (s.length - (stripM s).length)).2
 rw [e1,e2] at hc
 rw [e2] at hend
 refine ⟨fun i j hij hj=>?_,fun i hi=>?_,?_⟩
 ·have h:=(chn_at i hc zo).2.2
  have h3:=chn_at (j - (i+1)) h (by simp;omega)
  rw [show ((spM d s).drop (i+1)).getD (j - (i+1)) default=(spM d s).getD j default by simp [List.getD_eq_getElem?_getD,show i+1+(j - (i+1))=j by omega]] at h3
  exact h3.1
 ·have h:=chn_at i hc hi
  exact ⟨h.2.1,chn_le h.2.2⟩
 ·unfold endR27
  split
  ·omega
  ·have:=hend ‹_›;omega
def MB (m:Mk) (c n:Nat):Prop:=m.rc.length≤c∧m.fl.length≤n∧∀ x∈m.rc,x.length≤n
theorem MB.up {m:Mk} {c n c' n':Nat} (h:MB m c n) (hc:c≤c') (hn:n≤n'):MB m c' n':=⟨Nat.le_trans h.1 hc,Nat.le_trans h.2.1 hn,fun x hx=>Nat.le_trans (h.2.2 x hx) hn⟩
theorem MB.put {m:Mk} {c n:Nat} (h:MB m c n):MB m.put (c+1) n:=by
 obtain ⟨h1,h2,h3⟩:=h
 refine ⟨by simp [Mk.put,h1],by simp [Mk.put],fun x hx=>?_⟩
 simp only [Mk.put,List.mem_append,List.mem_singleton] at hx
 rcases hx with hx|hx
 ·exact h3 x hx
 ·rw [hx];exact h2
theorem gather_mb {l:Lm} {m m':Mk} {e:Ev} {c n:Nat} (h:gather l m e=.ok m') (hb:MB m c n):MB m' (c+2) (n+1):=by
 unfold gather at h
 split at h
 ·simp at h
 ·rename_i m1 h1
  have b1:MB m1 c n:=by
   unfold gBegin at h1
   split at h1
   ·split at h1
    ·simp at h1
    ·injection h1 with h1;subst h1;exact hb
   ·injection h1 with h1;subst h1;exact hb
  split at h
  ·simp at h
  ·rename_i m2 h2
   have b2:MB m2 c (n+1):=by
    unfold gAdd at h2
    split at h2
    ·split at h2
     ·simp at h2
     ·injection h2 with h2;subst h2
      exact ⟨b1.1,by simp only [List.length_append,List.length_singleton];have:=b1.2.1;omega,fun x hx=>Nat.le_succ_of_le (b1.2.2 x hx)⟩
    ·injection h2 with h2;subst h2;exact b1.up (Nat.le_refl _) (Nat.le_succ _)
   split at h
   ·simp at h
   ·rename_i m3 h3
    have b3:MB m3 (c+1) (n+1):=by
     unfold gField at h3
     split at h3
     ·split at h3
      ·simp at h3
      ·split at h3
       ·simp at h3
       ·injection h3 with h3;subst h3;exact b2.put
     ·injection h3 with h3;subst h3;exact b2.up (Nat.le_succ _) (Nat.le_refl _)
    unfold gLine at h
    split at h
    ·split at h
     ·simp at h
     ·injection h with h;subst h;exact b3.put
    ·injection h with h;subst h;exact b3.up (Nat.le_succ _) (Nat.le_refl _)
theorem take_mb {l:Lm} {m:Mk} {e:Ev} {c n:Nat} {x:Mk×Option (List Str)} (h:takeM l m e=.ok x) (hb:MB m c n):MB x.1 (c+2) (n+1)∧∀ r,x.2=some r→r.length≤c+2∧∀ f∈r,f.length≤n+1:=by
 unfold takeM at h
 split at h
 ·simp at h
 ·rename_i m1 h1
  have b1:=gather_mb h1 hb
  split at h
  ·injection h with h;subst h
   refine ⟨⟨by simp [Mk.out],b1.2.1,by simp [Mk.out]⟩,fun r hr=>?_⟩
   simp only [Option.some.injEq] at hr
   subst hr
   exact ⟨b1.1,b1.2.2⟩
  ·injection h with h;subst h
   exact ⟨b1,fun r hr=>by simp at hr⟩
theorem wrun_mb (d:Dl) (l:Lm):∀ (t:Str) (q st:Int) (m:Mk) (p c n:Nat),MB m c n→∀ x∈(wrun d l q st m p t).rs,x.1.length≤c+2 * (t.length+1)∧∀ f∈x.1,f.length≤n+(t.length+1):=by
 intro t
 induction t with
 | nil =>
   intro q st m p c n hb x hx
   rw [wrun_nil] at hx
   cases h:endW l q st m with
   | error k=>rw [h] at hx;simp at hx
   | ok r =>
     rw [h] at hx
     cases r with
     | none=>simp [oneR] at hx
     | some r =>
       simp only [oneR,List.mem_singleton] at hx
       subst hx
       unfold endW at h
       split at h
       ·simp at h
       ·unfold endR at h
        split at h
        ·simp at h
        ·split at h
         ·simp at h
         ·rename_i z hz
          have:=(take_mb hz hb).2 r (by simpa using h)
          exact ⟨by simpa using this.1,by simpa using this.2⟩
 | cons b t ih =>
   intro q st m p c n hb x hx
   rw [wrun_cons] at hx
   cases h:stepW d l q st m b with
   | error k=>rw [h] at hx;simp at hx
   | ok y =>
     rw [h] at hx
     simp only [Rs.pre,List.mem_append] at hx
     have hy : MB y.2.2.1 (c+2) (n+1)∧∀ r,y.2.2.2=some r→r.length≤c+2∧∀ f∈r,f.length≤n+1:=by
      unfold stepW at h
      split at h
      ·simp at h
      ·split at h
       ·simp at h
       ·rename_i z hz
        injection h with h;subst h
        unfold stepR at hz
        split at hz
        ·simp at hz
        ·split at hz
         ·simp at hz
         ·rename_i u hu
          injection hz with hz;subst hz
          exact take_mb hu hb
     rcases hx with hx|hx
     ·cases hr:y.2.2.2 with
      | none=>rw [hr] at hx;simp [oneR] at hx
      | some r =>
        rw [hr] at hx
        simp only [oneR,List.mem_singleton] at hx
        subst hx
        have:=hy.2 r hr
        refine ⟨by simp only [List.length_cons];omega,fun f hf=>?_⟩
        have:=this.2 f hf
        simp only [List.length_cons];omega
     ·have:=ih _ _ _ _ _ _ hy.1 x hx
      refine ⟨by simp only [List.length_cons];omega,fun f hf=>?_⟩
      have:=this.2 f hf
      simp only [List.length_cons];omega
theorem parM_mb (d:Dl) (l:Lm) (s:Str):∀ r∈(parM d l s).rs.map Prod.fst,r.length≤2 * (s.length+1)∧∀ f∈r,f.length≤s.length+1:=by
 intro r hr
 obtain ⟨x,hx,rfl⟩:=List.mem_map.1 hr
 have:=wrun_mb d l (stripM s) 0 0 {} _ 0 0 ⟨by simp,by simp,by simp⟩ x hx
 have hl:=(strip_drop s).2
 exact ⟨by omega,fun f hf=>by have:=this.2 f hf;omega⟩
theorem par_ok {d:Dl} {l:Lm} (hr:rightD d=true) (hf:fitsL l=true) (s:Str) (hk:(parM d l s).k=0) :
 (∀ i,i < ((parM d l s).rs.map Prod.fst).length→AllOK l (((parM d l s).rs.map Prod.fst).getD 0 []).length (((parM d l s).rs.map Prod.fst).getD i []))∧(((parM d l s).rs.length:Nat):Int)≤l.R:=by
 obtain ⟨f1,f2,f3,f4⟩:=fits_lm hf
 obtain ⟨n,h1,h2,h3,h4⟩:=wrun_ok (right_rt hr) f1 f2 (stripM s) 0 0 {} (s.length - (stripM s).length) ⟨by simp;omega,by simp,fun _=>⟨rfl,rfl,rfl⟩,fun h=>by omega,fun h=>by omega,.inl rfl,by simpa using f3⟩ hk
 have e:wrun d l 0 0 {} (s.length - (stripM s).length) (stripM s)=parM d l s:=rfl
 rw [e] at h2 h3 h4
 refine ⟨fun i hi=>?_,by simpa using h4⟩
 generalize (parM d l s).rs=rs at *
 cases rs with
 | nil=>simp at hi
 | cons x rs =>
   have hn:n=x.1.length:=h2 rfl x rfl
   have hm:((x :: rs).map Prod.fst).getD i []∈(x :: rs).map Prod.fst:=by
    rw [List.getD_eq_getElem?_getD,List.getElem?_eq_getElem hi];exact List.getElem_mem hi
   obtain ⟨y,hy,hy2⟩:=List.mem_map.1 hm
   rw [←hy2,List.map_cons,List.getD_cons_zero,←hn]
   exact h3 y hy
theorem fits_wide6:fitsL wideL=true:=by decide
theorem walk_wide6 {d:Dl} (hr:rightD d=true) (s:Str):walkM d wideL s=parM d wideL s:=by
 unfold walkM;rw [if_neg (by rw [hr];decide),if_neg (by rw [fits_wide6];decide)]
end Go.Proofs.YtllanbmpacgigaaGreatDoor
