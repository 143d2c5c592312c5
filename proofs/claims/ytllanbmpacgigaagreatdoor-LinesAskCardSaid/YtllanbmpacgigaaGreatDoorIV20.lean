/- Texts of the proof, joined. -/
import Derived.Test.YtllanbmpacgigaaGreatDoorIP20
import Derived.Test.YtllanbmpacgigaaGreatDoorIW16
import Derived.Test.YtllanbmpacgigaaGreatDoorIH06
namespace Go.Proofs.YtllanbmpacgigaaGreatDoor
open Operand renaming tmp→Y,const→yc
open MC renaming seq→Z,reg→yr,skip→yk,cond→yd
open MO renaming call→yl,bin→yb
open Nat renaming reduceAdd→zq1,reduceLeDiff→zq2,reduceEqDiff→zq3,reduceLT→zq4
open Int renaming reduceToNat→zq5
set_option linter.unusedSimpArgs false
set_option linter.unusedVariables false
open Go.RowKit
def rowF:List Str→List Col→List Val→List Val×Int×Int
 | s :: r,c :: l,out=>if (deM s c.kind c.null).2≠0 then ([],(out.length:Int),(deM s c.kind c.null).2) else rowF r l (out++[(deM s c.kind c.null).1])
 | _,_,out=>(out,(out.length:Int),0)
def rowM (r:List Str) (l:List Col):List Val×Int×Int:=if (r.length:Int)=l.length then rowF r l [] else ([],(r.length:Int),10)
structure Bd where
 k:Int
 r:Int
 c:Int
 a:Int
def rdF (r0:Nat) (p:List Int) (l:List Col) (fk fa:Int):List (List Str)→List (List Val)→List (List Val)×Bd
 | [],out=>if fk≠0 then ([],⟨fk,0,0,fa⟩) else (out,⟨0,0,0,0⟩)
 | r :: t,out=>if ¬ (r.length:Int)=r0 then ([],⟨10,(out.length:Int)+1,(r.length:Int),0⟩) else
   if (pickM r p).2≠0 then ([],⟨(pickM r p).2,(out.length:Int)+1,0,0⟩) else
   if (rowM (pickM r p).1 l).2.2≠0 then ([],⟨(rowM (pickM r p).1 l).2.2,(out.length:Int)+1,(rowM (pickM r p).1 l).2.1,0⟩) else rdF r0 p l fk fa t (out++[(rowM (pickM r p).1 l).1])
def rdT (l:List Col) (mode fk fa:Int):List (List Str)→List (List Val)×Bd
 | []=>if fk≠0 then ([],⟨fk,0,0,fa⟩) else ([],⟨25,0,0,0⟩)
 | r0 :: t=>if (bindCM r0 (l.map nkC) mode).2.2≠0 then ([],⟨(bindCM r0 (l.map nkC) mode).2.2,0,(bindCM r0 (l.map nkC) mode).2.1,0⟩) else rdF r0.length (bindCM r0 (l.map nkC) mode).1 l fk fa t []
def readM (d:Dl) (l:List Col) (mode:Int) (s:Str):List (List Val)×Bd :=
 if (checkM (l.map nkC)).2≠0 then ([],⟨(checkM (l.map nkC)).2,0,(checkM (l.map nkC)).1,0⟩) else
 if mode < 1∨3 < mode then ([],⟨22,0,0,0⟩) else
 if rightD d=false then ([],⟨1,0,0,0⟩) else
 rdT l mode (parM d wideL s).k (parM d wideL s).a ((parM d wideL s).rs.map Prod.fst)
theorem rowF_at (r:List Str) (l:List Col) (k:Nat) (out:List Val) (h1:(k:Int) < r.length) (h2:(k:Int) < l.length):rowF (r.drop k) (l.drop k) out =
 if (deM (r.getD k default) (l.getD k default).kind (l.getD k default).null).2≠0 then ([],(out.length:Int),(deM (r.getD k default) (l.getD k default).kind (l.getD k default).null).2) else rowF (r.drop (k+1)) (l.drop (k+1)) (out++[(deM (r.getD k default) (l.getD k default).kind (l.getD k default).null).1]):=by
 rw [dropD _ _ h1,dropD _ _ h2,rowF]
theorem rowF_end (r:List Str) (l:List Col) (k:Nat) (out:List Val) (h1:¬ (k:Int) < r.length):rowF (r.drop k) (l.drop k) out=(out,(out.length:Int),0):=by
 rw [List.drop_eq_nil_of_le (show r.length≤k by omega)]
 cases l.drop k<;>rfl
theorem rdF_at (r0:Nat) (p:List Int) (l:List Col) (fk fa:Int) (t:List (List Str)) (k:Nat) (out:List (List Val)) (h1:(k:Int) < t.length):rdF r0 p l fk fa (t.drop k) out =
 if ¬ ((t.getD k []).length:Int)=r0 then ([],⟨10,(out.length:Int)+1,((t.getD k []).length:Int),0⟩) else
 if (pickM (t.getD k []) p).2≠0 then ([],⟨(pickM (t.getD k []) p).2,(out.length:Int)+1,0,0⟩) else
 if (rowM (pickM (t.getD k []) p).1 l).2.2≠0 then ([],⟨(rowM (pickM (t.getD k []) p).1 l).2.2,(out.length:Int)+1,(rowM (pickM (t.getD k []) p).1 l).2.1,0⟩) else rdF r0 p l fk fa (t.drop (k+1)) (out++[(rowM (pickM (t.getD k []) p).1 l).1]):=by
 have hd:t.getD k default=t.getD k []:=rfl
 rw [dropD _ _ h1,rdF,hd]
theorem rdF_end (r0:Nat) (p:List Int) (l:List Col) (fk fa:Int) (t:List (List Str)) (k:Nat) (out:List (List Val)) (h1:¬ (k:Int) < t.length):rdF r0 p l fk fa (t.drop k) out=if fk≠0 then ([],⟨fk,0,0,fa⟩) else (out,⟨0,0,0,0⟩):=by
 rw [List.drop_eq_nil_of_le (show t.length≤k by omega),rdF]
attribute [local irreducible] SemK UnitK StK AlcK BslK CallK CallV Instr.box Builtin.append_ Instr.makeSlice Instr.makeMap Instr.lookup Instr.mapUpdate Instr.sliceAt convert
theorem pickF_sub (r:List Str) (B:Nat) (h:∀ s∈r,s.length≤B):∀ (p:List Int) (out:List Str),(∀ s∈out,s.length≤B)→(∀ s∈(pickF r p out).1,s.length≤B)∧(pickF r p out).1.length≤out.length+p.length
 | [],out,ho=>by rw [pickF];exact ⟨ho,by simp⟩
 | p :: l,out,ho=>by
   rw [pickF]
   split
   ·exact ⟨by simp,by simp⟩
   ·have := pickF_sub r B h l (out++[r.getD p.toNat default]) (fun s hs=>by
     rcases List.mem_append.1 hs with hs|hs
     ·exact ho s hs
     ·rw [List.mem_singleton] at hs
      subst hs
      rcases Nat.lt_or_ge p.toNat r.length with h1|h1
      ·exact h _ (getD_mem r p.toNat zo)
      ·rw [List.getD_eq_getElem?_getD,List.getElem?_eq_none h1];exact Nat.zero_le _)
    simp only [List.length_append,List.length_cons,List.length_nil] at this ⊢
    exact ⟨this.1,by omega⟩
theorem pickM_sub (r:List Str) (p:List Int) (B:Nat) (h:∀ s∈r,s.length≤B):(∀ s∈(pickM r p).1,s.length≤B)∧(pickM r p).1.length≤p.length:=by
 unfold pickM
 split
 ·exact ⟨by simp,by simp⟩
 ·have:=pickF_sub r B h p [] ze
  simpa using this
def c148l1:MC:=(Z (yr [qq 22 (yb .lss (Y 21) (Y 20))]) (Z (yd (Y 22) yk (.exit 0)) (Z (.blk 1 (Z (yr [qm 23 21,qq 24 (.adr 1 (Y 19) (Y 21)),qq 25 (.ld none (Y 24)),qm 8 23,qm 9 25]) (Z (yr [qm 27 9,qm 28 1,qm 29 8,qq 30 (.adr 3 (Y 28) (Y 29)),qq 31 (.ld (.some 3) (Y 30)),qq 32 (yl 182 [(Y 27),(Y 31)]),qm 26 32,qq 33 (.ext 0 (Y 26)),qq 34 (.ext 1 (Y 26)),qq 10 (.alc 129 [(.int .i64 0),(S []),(.int .i64 0),(.bool false)]),qn (.st 4 (Y 10) (Y 33)),qm 11 34]) (Z (Z (yr [qm 35 11,qq 36 (yb .neq (Y 35) (ki 0))]) (yd (Y 36) (Z (yr [qm 37 8,qm 38 11,qq 4 (.mv (yc (.slice none 0 0))),qm 5 37,qm 6 38]) .ret) yk)) (yr [qm 39 7,qq 40 (.ld (.some 4) (Y 10)),qq 41 (.bsl 129 [(.int .i64 0),(S []),(.int .i64 0),(.bool false)] 1 [⟨0,⟨4,(Y 40)⟩⟩]),qq 42 (.raw (.call ⟨(.builtin .append),#[(Y 39),(Y 41)],#[124,124]⟩) 124),qm 7 42]))))) (yr [qq 43 (yb .add (Y 21) (ki 1)),qm 21 43]))))
def c148:MC:=(Z (yr [qq 4 (.mv (yc (.slice none 0 0))),qq 5 (.mv (ki 0)),qq 6 (.mv (ki 0))]) (Z (Z (yr [qm 12 0,qq 13 (.len (Y 12)),qm 14 1,qq 15 (.len (Y 14)),qq 16 (yb .neq (Y 13) (Y 15))]) (yd (Y 16) (Z (yr [qm 17 0,qq 18 (.len (Y 17)),qq 4 (.mv (yc (.slice none 0 0))),qm 5 18,qq 6 (.mv (ki 10))]) .ret) yk)) (Z (yr [qq 7 (.mv (yc (.slice none 0 0)))]) (Z (Z (yr [qm 19 0,qq 20 (.len (Y 19)),qq 21 (.mv (ki 0))]) (.blk 0 (.loop c148l1))) (Z (yr [qm 44 7,qm 45 7,qq 46 (.len (Y 45)),qm 4 44,qm 5 46,qq 6 (.mv (ki 0))]) .ret)))))
set_option maxHeartbeats 1000000 in
theorem row_spec {v0 v1:Value} {r:List Str} {l:List Col} {w:World} (h0:Rd w eS v0 r) (h1:Rd w eC v1 l) (hs:∀ s∈r,s.length≤1000000) (hrl:r.length≤1000000000) (hv:ErrV w) :
 Ret Tryz.prog 148 #[v0,v1] w fun res w'=>∃ lv,res=.tuple #[lv,I (rowM r l).2.1,I (rowM r l).2.2]∧Sep w w' [accC lv 129 eVal (rowM r l).1]:=by
 refine En 47 c148 Tryz.func148 ?_
 have hS:=Sep.start w
 have hbd:=h0.bd
 have hbd1:=h1.bd
 have nilR:∀ {wx:World} {L:List Chk},Sep w wx L→Sep w wx [accC (.slice none 0 0) 129 eVal []]:=fun h=>(Sep.sub h Sub.n).nil _ _
 unfold rowM
 by_cases hl:(r.length:Int)=l.length
 rotate_left
 ·rw [if_neg hl]
  (have fct:=@hl;repeat' (first|refine G.reg fun K hK=>?_|(refine kM ?_;clear hK K)|refine sA ?_|((first|refine zalc ?_|refine zbsl ?_);intro gb wb hS)|((with_reducible refine gSt ?_);refine zs2 ?_;intro wb hS)|(refine G.cn ?_ ?_<;>intro hc<;>try exact zxf)))<;>(try clear fct)
  all_goals
   refine rM ?_
   exact ⟨_,rfl,nilR hS⟩
 ·rw [if_pos hl]
  have hS:=hS.nil 129 eVal
  (have fct:=@hl;repeat' (first|refine G.reg fun K hK=>?_|(refine kM ?_;clear hK K)|refine sA ?_|((first|refine zalc ?_|refine zbsl ?_);intro gb wb hS)|((with_reducible refine gSt ?_);refine zs2 ?_;intro wb hS)|(refine G.cn ?_ ?_<;>intro hc<;>try exact zxf)))<;>(try clear fct)
  refine G.loop (fun u w'=>∃ (k:Nat) (lv:Value) (out:List Val),k≤r.length∧out.length=k∧u 21=I k∧u 20=I r.length∧u 19=v0∧u 1=v1∧u 7=lv∧rowF r l []=rowF (r.drop k) (l.drop k) out∧Sep w w' [accC lv 129 eVal out]) (fun u _=>r.length - toN (u 21)) ?_ ?_
  ·have fct:=@hl;exact ⟨0,.slice none 0 0,[],Nat.zero_le _,rfl,by exact sf,by exact sf,by exact sf,by exact sf,by exact sf,rfl,hS⟩
  ·clear hS
   rintro u wl ⟨k,lv,out,hk,ho,q21,q20,q19,q1,q7,e,hS⟩ ih
   have hm:toN (u 21)=k:=by rw [q21];simp [toN]
   by_cases hlt:(k:Int) < r.length
   ·have hlb:(k:Int) < l.length:=by omega
    rw [rowF_at r l k out hlt hlb,ho] at e
    have hsk:=hs _ (getD_mem r k hlt)
    generalize hc:l.getD k default=c at *
    generalize hq:r.getD k default=q at *
    by_cases he:(deM q c.kind c.null).2=0
    ·rw [if_neg (not_not_intro he)] at e
     (have fct:=(a8 @q21 @q20 @q19 @q1 @q7 @hc @hq @he);repeat' (first|refine G.reg fun K hK=>?_|(refine kM ?_;clear hK K)|refine sA ?_|((first|refine zalc ?_|refine zbsl ?_);intro gb wb hS)|((with_reducible refine gSt ?_);refine zs2 ?_;intro wb hS)|(refine zcp 182 (dec_spec q c.name c.kind c.null _ hsk (hv.ext hS.x)) ?_;intro wb hS)|(refine zap (y:=(deM q c.kind c.null).1) ?_ (hy:=by simp only [eVal_f]);intro vb wb hS)|(refine G.cn ?_ ?_<;>intro hc<;>try exact zxf)))<;>(try clear fct)
     all_goals
      have fct:=(a5 @q21 @q20 @q19 @q1 @q7);refine ih _ _ ⟨k+1,vb,out++[(deM q c.kind c.null).1],by omega,by simp [ho],by exact sf,by exact sf,by exact sf,by exact sf,by exact sf,e,(Sep.sub hS zv)⟩ ?_
      rw [hm];simp only [push_cast,↓reduceIte,zq1,zq2,zq3,zq4,zq5,toN_i,q21,q20,q19,q1,q7];omega
    ·rw [if_pos he] at e
     (have fct:=(a8 @q21 @q20 @q19 @q1 @q7 @hc @hq @he);repeat' (first|refine G.reg fun K hK=>?_|(refine kM ?_;clear hK K)|refine sA ?_|((first|refine zalc ?_|refine zbsl ?_);intro gb wb hS)|((with_reducible refine gSt ?_);refine zs2 ?_;intro wb hS)|(refine zcp 182 (dec_spec q c.name c.kind c.null _ hsk (hv.ext hS.x)) ?_;intro wb hS)|(refine G.cn ?_ ?_<;>intro hc<;>try exact zxf)))<;>(try clear fct)
     all_goals
      rw [e]
      (have fct:=(a5 @q21 @q20 @q19 @q1 @q7);refine rM ?_)
      exact ⟨_,rfl,nilR hS⟩
   ·rw [rowF_end r l k out hlt] at e
    rw [e]
    (have fct:=(a5 @q21 @q20 @q19 @q1 @q7);repeat' (first|refine G.reg fun K hK=>?_|(refine kM ?_;clear hK K)|refine sA ?_|((first|refine zalc ?_|refine zbsl ?_);intro gb wb hS)|((with_reducible refine gSt ?_);refine zs2 ?_;intro wb hS)|(refine G.cn ?_ ?_<;>intro hc<;>try exact zxf)))<;>(try clear fct)
    all_goals
     (have fct:=(a5 @q21 @q20 @q19 @q1 @q7);refine rM ?_)
     exact ⟨_,rfl,hS⟩
def RdR (w:World) (p:List (List Val)×Bd) (res:Value) (w':World):Prop:=∃ v vs,res=.tuple #[v,.agg #[I p.2.k,I p.2.r,I p.2.c,I p.2.a]]∧Sep w w' [accC v 124 eV vs,frzC eVal vs p.1]
theorem RdR.none {w w':World} {L:List Chk} {b:Bd} (hS:Sep w w' L):RdR w ([],b) (.tuple #[.slice none 0 0,.agg #[I b.k,I b.r,I b.c,I b.a]]) w' :=
 ⟨_,[],rfl,(((Sep.sub hS Sub.n).frz0 eVal).nil 124 eV)⟩
theorem bindCM_len (names:List Str) (cs:List (Str×Int)) (mode:Int) (N:Nat) (h:cs.length≤N):(bindCM names cs mode).1.length≤N:=by
 have hb:=bcF_len names mode (cs.map (·.1)) []
 unfold bindCM
 by_cases h1:mode < 1∨3 < mode
 ·rw [if_pos h1];exact Nat.zero_le _
 rw [if_neg h1]
 by_cases h2:(checkM cs).2≠0
 ·rw [if_pos h2];exact Nat.zero_le _
 rw [if_neg h2]
 by_cases h3:(newM names).2≠0
 ·rw [if_pos h3];exact Nat.zero_le _
 rw [if_neg h3]
 by_cases h4:(bcF names mode (cs.map (·.1)) []).2.2≠0
 ·rw [if_pos h4];exact Nat.zero_le _
 rw [if_neg h4]
 have h5:=(hb (by simpa using h4)).1
 rw [List.length_map] at h5
 have h6:(bcF names mode (cs.map (·.1)) []).1.length≤N:=by simpa [h5] using h
 split
 ·split
  ·exact Nat.zero_le _
  ·exact h6
 ·exact h6
def c107l1:MC:=(Z (yr [qq 90 (yb .lss (Y 89) (Y 88))]) (Z (yd (Y 90) yk (.exit 0)) (Z (.blk 1 (Z (yr [qm 91 89,qq 92 (.adr 1 (Y 87) (Y 89)),qq 93 (.ld none (Y 92)),qm 19 91,qm 20 93]) (Z (Z (yr [qm 94 20,qq 95 (.len (Y 94)),qm 96 13,qq 97 (.adr 1 (Y 96) (ki 0)),qq 98 (.ld none (Y 97)),qq 99 (.len (Y 98)),qq 100 (yb .neq (Y 95) (Y 99))]) (yd (Y 100) (Z (yr [qm 101 19,qq 102 (yb .add (Y 101) (ki 1)),qm 103 20,qq 104 (.len (Y 103)),qq 105 (.bld [(.int .i64 0),(.int .i64 0),(.int .i64 0),(.int .i64 0)] [⟨0,⟨1,(ki 10)⟩⟩,⟨1,⟨1,(Y 102)⟩⟩,⟨2,⟨1,(Y 104)⟩⟩]),qq 8 (.mv (yc (.slice none 0 0))),qn (.st 4 (Y 9) (Y 105))]) .ret) yk)) (Z (yr [qm 107 20,qm 108 15,qq 109 (yl 147 [(Y 107),(Y 108)]),qm 106 109,qq 110 (.ext 0 (Y 106)),qq 111 (.ext 1 (Y 106)),qm 21 110,qm 22 111]) (Z (Z (yr [qm 112 22,qq 113 (yb .neq (Y 112) (ki 0))]) (yd (Y 113) (Z (yr [qm 114 22,qm 115 19,qq 116 (yb .add (Y 115) (ki 1)),qq 117 (.bld [(.int .i64 0),(.int .i64 0),(.int .i64 0),(.int .i64 0)] [⟨0,⟨1,(Y 114)⟩⟩,⟨1,⟨1,(Y 116)⟩⟩]),qq 8 (.mv (yc (.slice none 0 0))),qn (.st 4 (Y 9) (Y 117))]) .ret) yk)) (Z (yr [qm 119 21,qm 120 1,qq 121 (yl 148 [(Y 119),(Y 120)]),qm 118 121,qq 122 (.ext 0 (Y 118)),qq 123 (.ext 1 (Y 118)),qq 124 (.ext 2 (Y 118)),qm 23 122,qm 24 123,qm 22 124]) (Z (Z (yr [qm 125 22,qq 126 (yb .neq (Y 125) (ki 0))]) (yd (Y 126) (Z (yr [qm 127 22,qm 128 19,qq 129 (yb .add (Y 128) (ki 1)),qm 130 24,qq 131 (.bld [(.int .i64 0),(.int .i64 0),(.int .i64 0),(.int .i64 0)] [⟨0,⟨1,(Y 127)⟩⟩,⟨1,⟨1,(Y 129)⟩⟩,⟨2,⟨1,(Y 130)⟩⟩]),qq 8 (.mv (yc (.slice none 0 0))),qn (.st 4 (Y 9) (Y 131))]) .ret) yk)) (yr [qm 132 18,qm 133 23,qq 134 (.bsl 124 [(.slice none 0 0)] 1 [⟨0,⟨1,(Y 133)⟩⟩]),qq 135 (.raw (.call ⟨(.builtin .append),#[(Y 132),(Y 134)],#[112,112]⟩) 112),qm 18 135])))))))) (yr [qq 136 (yb .add (Y 89) (ki 1)),qm 89 136]))))
def c107:MC:=(Z (yr [qq 4 (.raw (.box 39 (Y 0)) 0),qq 8 (.mv (yc (.slice none 0 0))),qq 9 (.alc 163 [(.int .i64 0),(.int .i64 0),(.int .i64 0),(.int .i64 0)])]) (Z (Z (yr [qm 26 1,qq 27 (yl 96 [(Y 26)]),qm 25 27,qq 28 (.ext 0 (Y 25)),qq 29 (.ext 1 (Y 25)),qm 10 28,qm 11 29]) (Z (yr [qm 30 11,qq 31 (yb .neq (Y 30) (ki 0))]) (yd (Y 31) (Z (yr [qm 32 11,qm 33 10,qq 34 (.bld [(.int .i64 0),(.int .i64 0),(.int .i64 0),(.int .i64 0)] [⟨0,⟨1,(Y 32)⟩⟩,⟨2,⟨1,(Y 33)⟩⟩]),qq 8 (.mv (yc (.slice none 0 0))),qn (.st 4 (Y 9) (Y 34))]) .ret) yk))) (Z (Z (yr [qm 35 2,qq 36 (yb .neq (Y 35) (ki 1)),qm 37 36,qmt 37 38 2,qt 37 39 (yb .neq (Y 38) (ki 2)),qq 40 (.pick (Y 37) (Y 39) (kb false)),qm 41 40,qmt 41 42 2,qt 41 43 (yb .neq (Y 42) (ki 3)),qq 44 (.pick (Y 41) (Y 43) (kb false))]) (yd (Y 44) (Z (yr [qq 45 (.bld [(.int .i64 0),(.int .i64 0),(.int .i64 0),(.int .i64 0)] [⟨0,⟨1,(ki 22)⟩⟩]),qq 8 (.mv (yc (.slice none 0 0))),qn (.st 4 (Y 9) (Y 45))]) .ret) yk)) (Z (Z (yr [qq 46 (.ld (.some 3) (Y 4)),qq 47 (yl 85 [(Y 46)]),qm 12 47]) (Z (yr [qm 48 12,qq 49 (yb .neq (Y 48) (ki 0))]) (yd (Y 49) (Z (yr [qm 50 12,qq 51 (.bld [(.int .i64 0),(.int .i64 0),(.int .i64 0),(.int .i64 0)] [⟨0,⟨1,(Y 50)⟩⟩]),qq 8 (.mv (yc (.slice none 0 0))),qn (.st 4 (Y 9) (Y 51))]) .ret) yk))) (Z (.drg [qq 53 (.ld (.some 3) (Y 4)),qq 54 (yl 72 []),qm 55 3,qq 56 (yl 38 [(Y 53),(Y 54),(Y 55)]),qm 52 56,qq 57 (.ext 0 (Y 52)),qq 58 (.ext 1 (Y 52)),qq 14 (.alc 77 [(.int .i64 0),(.int .i64 0)]),qm 13 57,qn (.st 2 (Y 14) (Y 58))] (.some (.br [qm 55 3] (.br [qq 53 (.ld (.some 3) (Y 4))] (.br [qq 54 (yl 72 [])] (.leaf [qq 56 (yl 38 [(Y 53),(Y 54),(Y 55)]),qm 52 56,qq 57 (.ext 0 (Y 52)),qq 58 (.ext 1 (Y 52)),qq 14 (.alc 77 [(.int .i64 0),(.int .i64 0)]),qm 13 57,qn (.st 2 (Y 14) (Y 58))]) (.leaf [qq 14 (.alc 77 [(.int .i64 0),(.int .i64 0)]),qq 56 (yl 38 [(Y 53),(Y 54),(Y 55)]),qm 52 56,qq 57 (.ext 0 (Y 52)),qq 58 (.ext 1 (Y 52)),qm 13 57,qn (.st 2 (Y 14) (Y 58))])) (.leaf [qq 14 (.alc 77 [(.int .i64 0),(.int .i64 0)]),qq 54 (yl 72 []),qq 56 (yl 38 [(Y 53),(Y 54),(Y 55)]),qm 52 56,qq 57 (.ext 0 (Y 52)),qq 58 (.ext 1 (Y 52)),qm 13 57,qn (.st 2 (Y 14) (Y 58))])) (.br [] (.br [qq 54 (yl 72 [])] (.br [qq 53 (.ld (.some 3) (Y 4))] (.leaf [qq 56 (yl 38 [(Y 53),(Y 54),(Y 55)]),qm 52 56,qq 57 (.ext 0 (Y 52)),qq 58 (.ext 1 (Y 52)),qq 14 (.alc 77 [(.int .i64 0),(.int .i64 0)]),qm 13 57,qn (.st 2 (Y 14) (Y 58))]) (.leaf [qq 14 (.alc 77 [(.int .i64 0),(.int .i64 0)]),qq 56 (yl 38 [(Y 53),(Y 54),(Y 55)]),qm 52 56,qq 57 (.ext 0 (Y 52)),qq 58 (.ext 1 (Y 52)),qm 13 57,qn (.st 2 (Y 14) (Y 58))])) (.leaf [qq 14 (.alc 77 [(.int .i64 0),(.int .i64 0)]),qq 53 (.ld (.some 3) (Y 4)),qq 56 (yl 38 [(Y 53),(Y 54),(Y 55)]),qm 52 56,qq 57 (.ext 0 (Y 52)),qq 58 (.ext 1 (Y 52)),qm 13 57,qn (.st 2 (Y 14) (Y 58))])) (.br [qq 14 (.alc 77 [(.int .i64 0),(.int .i64 0)])] (.leaf [qq 53 (.ld (.some 3) (Y 4)),qq 54 (yl 72 []),qq 56 (yl 38 [(Y 53),(Y 54),(Y 55)]),qm 52 56,qq 57 (.ext 0 (Y 52)),qq 58 (.ext 1 (Y 52)),qm 13 57,qn (.st 2 (Y 14) (Y 58))]) (.leaf [qq 54 (yl 72 []),qq 53 (.ld (.some 3) (Y 4)),qq 56 (yl 38 [(Y 53),(Y 54),(Y 55)]),qm 52 56,qq 57 (.ext 0 (Y 52)),qq 58 (.ext 1 (Y 52)),qm 13 57,qn (.st 2 (Y 14) (Y 58))])))))) (Z (Z (yr [qm 59 13,qq 60 (.len (Y 59)),qq 61 (yb .eql (Y 60) (ki 0))]) (yd (Y 61) (Z (Z (yr [qq 62 (.fad 0 (Y 14)),qq 63 (.ld none (Y 62)),qq 64 (yb .neq (Y 63) (ki 0))]) (yd (Y 64) (Z (.drg [qq 65 (.fad 0 (Y 14)),qq 66 (.ld none (Y 65)),qq 67 (.fad 1 (Y 14)),qq 68 (.ld none (Y 67)),qq 69 (.bld [(.int .i64 0),(.int .i64 0),(.int .i64 0),(.int .i64 0)] [⟨0,⟨1,(Y 66)⟩⟩,⟨3,⟨1,(Y 68)⟩⟩]),qq 8 (.mv (yc (.slice none 0 0))),qn (.st 4 (Y 9) (Y 69))] (.some (.br [qq 65 (.fad 0 (Y 14)),qq 67 (.fad 1 (Y 14)),qq 8 (.mv (yc (.slice none 0 0)))] (.leaf [qq 66 (.ld none (Y 65)),qq 68 (.ld none (Y 67)),qq 69 (.bld [(.int .i64 0),(.int .i64 0),(.int .i64 0),(.int .i64 0)] [⟨0,⟨1,(Y 66)⟩⟩,⟨3,⟨1,(Y 68)⟩⟩]),qn (.st 4 (Y 9) (Y 69))]) (.leaf [qq 68 (.ld none (Y 67)),qq 66 (.ld none (Y 65)),qq 69 (.bld [(.int .i64 0),(.int .i64 0),(.int .i64 0),(.int .i64 0)] [⟨0,⟨1,(Y 66)⟩⟩,⟨3,⟨1,(Y 68)⟩⟩]),qn (.st 4 (Y 9) (Y 69))])))) .ret) yk)) (Z (yr [qq 70 (.bld [(.int .i64 0),(.int .i64 0),(.int .i64 0),(.int .i64 0)] [⟨0,⟨1,(ki 25)⟩⟩]),qq 8 (.mv (yc (.slice none 0 0))),qn (.st 4 (Y 9) (Y 70))]) .ret)) yk)) (Z (yr [qm 72 13,qq 73 (.adr 1 (Y 72) (ki 0)),qq 74 (.ld none (Y 73)),qm 75 1,qm 76 2,qq 77 (yl 146 [(Y 74),(Y 75),(Y 76)]),qm 71 77,qq 78 (.ext 0 (Y 71)),qq 79 (.ext 1 (Y 71)),qq 80 (.ext 2 (Y 71)),qm 15 78,qm 16 79,qm 17 80]) (Z (Z (yr [qm 81 17,qq 82 (yb .neq (Y 81) (ki 0))]) (yd (Y 82) (Z (yr [qm 83 17,qm 84 16,qq 85 (.bld [(.int .i64 0),(.int .i64 0),(.int .i64 0),(.int .i64 0)] [⟨0,⟨1,(Y 83)⟩⟩,⟨2,⟨1,(Y 84)⟩⟩]),qq 8 (.mv (yc (.slice none 0 0))),qn (.st 4 (Y 9) (Y 85))]) .ret) yk)) (Z (yr [qq 18 (.mv (yc (.slice none 0 0)))]) (Z (Z (yr [qm 86 13,qq 87 (.slV 1 (Y 86) (.some (ki 1)) none),qq 88 (.len (Y 87)),qq 89 (.mv (ki 0))]) (.blk 0 (.loop c107l1))) (Z (Z (yr [qq 137 (.fad 0 (Y 14)),qq 138 (.ld none (Y 137)),qq 139 (yb .neq (Y 138) (ki 0))]) (yd (Y 139) (Z (.drg [qq 140 (.fad 0 (Y 14)),qq 141 (.ld none (Y 140)),qq 142 (.fad 1 (Y 14)),qq 143 (.ld none (Y 142)),qq 144 (.bld [(.int .i64 0),(.int .i64 0),(.int .i64 0),(.int .i64 0)] [⟨0,⟨1,(Y 141)⟩⟩,⟨3,⟨1,(Y 143)⟩⟩]),qq 8 (.mv (yc (.slice none 0 0))),qn (.st 4 (Y 9) (Y 144))] (.some (.br [qq 140 (.fad 0 (Y 14)),qq 142 (.fad 1 (Y 14)),qq 8 (.mv (yc (.slice none 0 0)))] (.leaf [qq 141 (.ld none (Y 140)),qq 143 (.ld none (Y 142)),qq 144 (.bld [(.int .i64 0),(.int .i64 0),(.int .i64 0),(.int .i64 0)] [⟨0,⟨1,(Y 141)⟩⟩,⟨3,⟨1,(Y 143)⟩⟩]),qn (.st 4 (Y 9) (Y 144))]) (.leaf [qq 143 (.ld none (Y 142)),qq 141 (.ld none (Y 140)),qq 144 (.bld [(.int .i64 0),(.int .i64 0),(.int .i64 0),(.int .i64 0)] [⟨0,⟨1,(Y 141)⟩⟩,⟨3,⟨1,(Y 143)⟩⟩]),qn (.st 4 (Y 9) (Y 144))])))) .ret) yk)) (Z (yr [qm 145 18,qq 146 (.bld [(.int .i64 0),(.int .i64 0),(.int .i64 0),(.int .i64 0)] []),qm 8 145,qn (.st 4 (Y 9) (Y 146))]) .ret))))))))))))
def readV (T:MC):MC:=match c107 with
 | .seq a (.seq b (.seq c (.seq d (.seq e _))))=>.seq a (.seq b (.seq c (.seq d (.seq e T))))
 | _=>.skip
def readT:MC:=match c107 with
 | .seq _ (.seq _ (.seq _ (.seq _ (.seq _ T))))=>T
 | _=>.skip
set_option maxHeartbeats 2000000 in
theorem read_tail {v1:Value} {l:List Col} {mode:Int} {w:World} {n:Nat} (h1:Rd w eC v1 l) (hm:1≤mode∧mode≤3) (hl1:l.length≤1000000000) (hl2:∀ c∈l,c.name.length≤100000000000) (hv:ErrV w)
 {fk fa:Int} {recs:List (List Str)} {g14 g9:Nat} {v:Value} {vs:List Value} {ρ:Fr} {w':World} (hmb:∀ r∈recs,r.length≤1000000000∧∀ f∈r,f.length≤1000000) (hrl:recs.length≤1000000000) (hS:Sep w w' [boxC g14 77 [I fk,I fa],accC v 22 eV vs,frzC eS vs recs,boxC g9 163 [I 0,I 0,I 0,I 0]]) (q1:ρ 1=v1) (q2:ρ 2=I mode) (q9:ρ 9=.pointer (some ⟨g9,0,none⟩)) (q13:ρ 13=v) (q14:ρ 14=.pointer (some ⟨g14,0,none⟩)) :
 G Tryz.prog Tryz.f107 n [.c readT] (RdR w (rdT l mode fk fa recs)) ρ w':=by
 unfold readT c107
 dsimp only
 have hvl:=hS.frzLen (.t (.t .h))
 have hrv:=Sep.rd (v:=v) hS (.t .h)
 have hbd:=hrv.bd
 cases recs with
 | nil =>
   obtain rfl:vs=[]:=List.eq_nil_of_length_eq_zero hvl
   rw [rdT]
   by_cases hk:fk=0
   ·rw [if_neg (not_not_intro hk)]
    (have fct:=(a6 @q1 @q2 @q9 @q13 @q14 @hk);repeat' (first|(refine gO ?_;intro K hK)|(refine kP ?_;clear hK K)|(refine hK _ _ ?_ ?_<;>clear hK K)|(intro wd hxd;have hS:=Sep.xx hxd)|refine sA ?_|(refine bM ?_ ?_<;>intro hb hc<;>first|exact zxf|(simp only [hb];clear hb))|((first|refine zalc ?_|refine zbsl ?_|((with_reducible refine gBox ?_);refine zbox ?_));intro gb wb hS)|((with_reducible refine gSt ?_);refine zs2 ?_;intro wb hS)|(refine G.cn ?_ ?_<;>intro hc<;>try exact zxf)))<;>(try clear fct)
    all_goals
     (have fct:=@q9;refine rM ?_)
     exact RdR.none (b:=⟨25,0,0,0⟩) hS
   ·rw [if_pos hk]
    (have fct:=(a6 @q1 @q2 @q9 @q13 @q14 @hk);repeat' (first|(refine gO ?_;intro K hK)|(refine kP ?_;clear hK K)|(refine hK _ _ ?_ ?_<;>clear hK K)|(intro wd hxd;have hS:=Sep.xx hxd)|refine sA ?_|(refine bM ?_ ?_<;>intro hb hc<;>first|exact zxf|(simp only [hb];clear hb))|((first|refine zalc ?_|refine zbsl ?_|((with_reducible refine gBox ?_);refine zbox ?_));intro gb wb hS)|((with_reducible refine gSt ?_);refine zs2 ?_;intro wb hS)|(refine G.cn ?_ ?_<;>intro hc<;>try exact zxf)))<;>(try clear fct)
    all_goals
     (have fct:=@q9;refine rM ?_)
     exact RdR.none (b:=⟨fk,0,0,fa⟩) hS
 | cons r0 t =>
   have hvl':(vs.length:Int)=t.length+1:=by simp only [List.length_cons] at hvl;omega
   have hne:¬ (vs.length:Int)=0:=by omega
   have h00:(0:Int) < vs.length:=by omega
   have hr0:Rd w' eS (vs.getD 0 default) r0:=Sep.frzAt (vs:=vs) (xss:=r0 :: t) hS zr (i:=0) ze
   obtain ⟨b1,b2⟩:=hmb r0 ze
   have hd1:(vs.drop 1).length=t.length:=by rw [List.length_drop];omega
   rw [rdT]
   generalize hbm:bindCM r0 (l.map nkC) mode=B at *
   by_cases hbe:B.2.2=0
   rotate_left
   ·rw [if_pos hbe]
    have hsl:=hrv.sll (k:=.i64) (a:=1) (n:=1) rfl zd zo
    (have fct:=(a8 @q1 @q2 @q9 @q13 @q14 @hbm @hbe @hne);repeat' (first|(refine gO ?_;intro K hK)|(refine kP ?_;clear hK K)|(refine hK _ _ ?_ ?_<;>clear hK K)|(intro wd hxd;have hS:=Sep.xx hxd)|refine sA ?_|(refine bM ?_ ?_<;>intro hb hc<;>first|exact zxf|(simp only [hb];clear hb))|((first|refine zalc ?_|refine zbsl ?_|((with_reducible refine gBox ?_);refine zbox ?_));intro gb wb hS)|((with_reducible refine gSt ?_);refine zs2 ?_;intro wb hS)|(refine zco 146 (bindC_spec (l:=l) (names:=r0) (Sep.frzAt (vs:=vs) (xss:=r0 :: t) hS zr (i:=0) ze) (h1.ext hS.x) zo b1 hl1 (fun s hs=>by have:=b2 s hs;omega) hl2) ?_;rintro vb wb ⟨pv,rfl,hS2⟩;have hS:=hS2.ap;simp only [apps] at hS)|(refine G.cn ?_ ?_<;>intro hc<;>try exact zxf)))<;>(try clear fct)
    all_goals
     (have fct:=@q9;refine rM ?_)
     exact RdR.none (b:=⟨B.2.2,0,B.2.1,0⟩) hS
   ·rw [if_neg (not_not_intro hbe)]
    have hpl:B.1.length≤1000000000:=by rw [←hbm];exact bindCM_len _ _ _ _ (by rw [List.length_map];exact hl1)
    have hsl:=hrv.sll (k:=.i64) (a:=1) (n:=1) rfl zd zo
    (have fct:=(a8 @q1 @q2 @q9 @q13 @q14 @hbm @hbe @hne);repeat' (first|(refine gO ?_;intro K hK)|(refine kP ?_;clear hK K)|(refine hK _ _ ?_ ?_<;>clear hK K)|(intro wd hxd;have hS:=Sep.xx hxd)|refine sA ?_|(refine bM ?_ ?_<;>intro hb hc<;>first|exact zxf|(simp only [hb];clear hb))|((first|refine zalc ?_|refine zbsl ?_|((with_reducible refine gBox ?_);refine zbox ?_));intro gb wb hS)|((with_reducible refine gSt ?_);refine zs2 ?_;intro wb hS)|(refine zco 146 (bindC_spec (l:=l) (names:=r0) (Sep.frzAt (vs:=vs) (xss:=r0 :: t) hS zr (i:=0) ze) (h1.ext hS.x) zo b1 hl1 (fun s hs=>by have:=b2 s hs;omega) hl2) ?_;rintro vb wb ⟨pv,rfl,hS2⟩;have hS:=hS2.ap;simp only [apps] at hS)|(refine G.cn ?_ ?_<;>intro hc<;>try exact zxf)))<;>(try clear fct)
    all_goals
     rw [hbm] at hS
     clear hS2
     generalize B.1=p at *
     have hS:=(hS.frz0 eVal).nil 124 eV
     refine G.loop (fun u wz=>∃ (k:Nat) (rv:Value) (us:List Value) (out:List (List Val)),k≤t.length∧out.length=k∧u 89=I k∧u 88=I t.length∧u 87=slVV 1 (some (I 1)) none v∧u 1=v1∧u 9=.pointer (some ⟨g9,0,none⟩)∧u 13=v∧u 14=.pointer (some ⟨g14,0,none⟩)∧u 15=pv∧u 18=rv∧rdF r0.length p l fk fa t []=rdF r0.length p l fk fa (t.drop k) out ∧
      Sep w wz [accC rv 124 eV us,frzC eVal us out,accC pv 3 eI p,boxC g14 77 [I fk,I fa],accC v 22 eV vs,frzC eS vs (r0 :: t),boxC g9 163 [I 0,I 0,I 0,I 0]]) (fun u _=>t.length - toN (u 89)) ?_ ?_
     ·exact ⟨0,.slice none 0 0,[],[],Nat.zero_le _,rfl,by simp only [push_cast,↓reduceIte,zq1,zq2,zq3,zq4,zq5]<;>rfl,by simp only [push_cast,↓reduceIte,zq1,zq2,zq3,zq4,zq5,q13,hd1]<;>rfl,by simp only [push_cast,↓reduceIte,zq1,zq2,zq3,zq4,zq5,q13]<;>rfl,by simp only [push_cast,↓reduceIte,zq1,zq2,zq3,zq4,zq5,q1]<;>rfl,by simp only [push_cast,↓reduceIte,zq1,zq2,zq3,zq4,zq5,q9]<;>rfl,by simp only [push_cast,↓reduceIte,zq1,zq2,zq3,zq4,zq5,q13]<;>rfl,by simp only [push_cast,↓reduceIte,zq1,zq2,zq3,zq4,zq5,q14]<;>rfl,by simp only [push_cast,↓reduceIte,zq1,zq2,zq3,zq4,zq5]<;>rfl,by simp only [push_cast,↓reduceIte,zq1,zq2,zq3,zq4,zq5]<;>rfl,rfl,hS⟩
     ·clear hS q1 q2 q9 q13 q14 hr0 hrv hsl
      rintro u wl ⟨k,rv,us,out,hk,ho,q89,q88,q87,q1,q9,q13,q14,q15,q18,e,hS⟩ ih
      have hmk:toN (u 89)=k:=by rw [q89];simp [toN]
      have hul:=hS.frzLen (.t .h)
      have hxw:=hS.xt
      by_cases hlt:(k:Int) < t.length
      ·have hrv := Sep.rd (v:=v) (xs:=vs) hS zr
       have hsl:=hrv.sll (k:=.i64) (a:=1) (n:=1) rfl zd zo
       have hlb:(k:Int) < (vs.drop 1).length:=by omega
       have hel:(vs.drop 1).getD k default=vs.getD (k+1) default:=by simp [List.getD_eq_getElem?_getD,List.getElem?_drop,Nat.add_comm]
       have hr0:Rd wl eS (vs.getD 0 default) r0:=Sep.frzAt (vs:=vs) (xss:=r0 :: t) hS zr (i:=0) ze
       have hrk:Rd wl eS (vs.getD (k+1) default) (t.getD k []):=Sep.frzAt (vs:=vs) (xss:=r0 :: t) hS zr (i:=k+1) (by simp;omega)
       obtain ⟨b3,b4⟩:=hmb (t.getD k []) (List.mem_cons_of_mem _ (getD_mem t k hlt))
       rw [rdF_at _ _ _ _ _ t k out hlt,ho] at e
       generalize t.getD k []=r at *
       by_cases hw:(r.length:Int)=r0.length
       rotate_left
       ·rw [if_pos hw] at e
        (have fct:=(a11 @q89 @q88 @q87 @q1 @q9 @q13 @q14 @q15 @q18 @hel @hw);repeat' (first|(refine gO ?_;intro K hK)|(refine kP ?_;clear hK K)|(refine hK _ _ ?_ ?_<;>clear hK K)|(intro wd hxd;have hS:=Sep.xx hxd)|refine sA ?_|(refine bM ?_ ?_<;>intro hb hc<;>first|exact zxf|(simp only [hb];clear hb))|((first|refine zalc ?_|refine zbsl ?_|((with_reducible refine gBox ?_);refine zbox ?_));intro gb wb hS)|((with_reducible refine gSt ?_);refine zs2 ?_;intro wb hS)|(refine G.cn ?_ ?_<;>intro hc<;>try exact zxf)))<;>(try clear fct)
        all_goals
         rw [e]
         (have fct:=(a9 @q89 @q88 @q87 @q1 @q9 @q13 @q14 @q15 @q18);refine rM ?_)
         exact RdR.none (b:=⟨10,(k:Int)+1,(r.length:Int),0⟩) hS
       ·rw [if_neg (not_not_intro hw)] at e
        obtain ⟨c1,c2⟩:=pickM_sub r p 1000000 b4
        by_cases hp:(pickM r p).2=0
        rotate_left
        ·rw [if_pos hp] at e
         (have fct:=(a12 @q89 @q88 @q87 @q1 @q9 @q13 @q14 @q15 @q18 @hel @hw @hp);repeat' (first|(refine gO ?_;intro K hK)|(refine kP ?_;clear hK K)|(refine hK _ _ ?_ ?_<;>clear hK K)|(intro wd hxd;have hS:=Sep.xx hxd)|refine sA ?_|(refine bM ?_ ?_<;>intro hb hc<;>first|exact zxf|(simp only [hb];clear hb))|((first|refine zalc ?_|refine zbsl ?_|((with_reducible refine gBox ?_);refine zbox ?_));intro gb wb hS)|((with_reducible refine gSt ?_);refine zs2 ?_;intro wb hS)|(refine zco 147 (pick_spec (r:=r) (places:=p) hrk (Sep.rd hS zr) hpl) ?_;rintro vb wb ⟨fv,rfl,hS2⟩;have hS:=hS2.ap;simp only [apps] at hS)|(refine G.cn ?_ ?_<;>intro hc<;>try exact zxf)))<;>(try clear fct)
         all_goals
          rw [e]
          (have fct:=(a9 @q89 @q88 @q87 @q1 @q9 @q13 @q14 @q15 @q18);refine rM ?_)
          exact RdR.none (b:=⟨(pickM r p).2,(k:Int)+1,0,0⟩) hS
        ·rw [if_neg (not_not_intro hp)] at e
         by_cases hx:(rowM (pickM r p).1 l).2.2=0
         rotate_left
         ·rw [if_pos hx] at e
          (have fct:=(aI @q89 (aI @q88 (aI @q87 (aI @q1 (aI @q9 (aI @q13 (aI @q14 (aI @q15 (aI @q18 (aI @hel (aI @hw (aI @hp @hx))))))))))));repeat' (first|(refine gO ?_;intro K hK)|(refine kP ?_;clear hK K)|(refine hK _ _ ?_ ?_<;>clear hK K)|(intro wd hxd;have hS:=Sep.xx hxd)|refine sA ?_|(refine bM ?_ ?_<;>intro hb hc<;>first|exact zxf|(simp only [hb];clear hb))|((first|refine zalc ?_|refine zbsl ?_|((with_reducible refine gBox ?_);refine zbox ?_));intro gb wb hS)|((with_reducible refine gSt ?_);refine zs2 ?_;intro wb hS)|(refine zco 147 (pick_spec (r:=r) (places:=p) hrk (Sep.rd hS zr) hpl) ?_;rintro vb wb ⟨fv,rfl,hS2⟩;have hS:=hS2.ap;simp only [apps] at hS)|(refine zco 148 (row_spec (r:=(pickM r p).1) (l:=l) (Sep.rd hS zr) (h1.ext hS.x) c1 zo (hv.ext hS.x)) ?_;rintro vb wb ⟨lv,rfl,hS2⟩;have hS:=hS2.ap;simp only [apps] at hS)|(refine G.cn ?_ ?_<;>intro hc<;>try exact zxf)))<;>(try clear fct)
          all_goals
           rw [e]
           (have fct:=(a9 @q89 @q88 @q87 @q1 @q9 @q13 @q14 @q15 @q18);refine rM ?_)
           exact RdR.none (b:=⟨(rowM (pickM r p).1 l).2.2,(k:Int)+1,(rowM (pickM r p).1 l).2.1,0⟩) hS
         ·rw [if_neg (not_not_intro hx)] at e
          (have fct:=(aI @q89 (aI @q88 (aI @q87 (aI @q1 (aI @q9 (aI @q13 (aI @q14 (aI @q15 (aI @q18 (aI @hel (aI @hw (aI @hp @hx))))))))))));repeat' (first|(refine gO ?_;intro K hK)|(refine kP ?_;clear hK K)|(refine hK _ _ ?_ ?_<;>clear hK K)|(intro wd hxd;have hS:=Sep.xx hxd)|refine sA ?_|(refine bM ?_ ?_<;>intro hb hc<;>first|exact zxf|(simp only [hb];clear hb))|((first|refine zalc ?_|refine zbsl ?_|((with_reducible refine gBox ?_);refine zbox ?_));intro gb wb hS)|((with_reducible refine gSt ?_);refine zs2 ?_;intro wb hS)|(refine zco 147 (pick_spec (r:=r) (places:=p) hrk (Sep.rd hS zr) hpl) ?_;rintro vb wb ⟨fv,rfl,hS2⟩;have hS:=hS2.ap;simp only [apps] at hS)|(refine zco 148 (row_spec (r:=(pickM r p).1) (l:=l) (Sep.rd hS zr) (h1.ext hS.x) c1 zo (hv.ext hS.x)) ?_;rintro vb wb ⟨lv,rfl,hS2⟩;have hS:=hS2.ap;simp only [apps] at hS)|(refine zap ?_;intro vb wb hS)|(refine G.cn ?_ ?_<;>intro hc<;>try exact zxf)))<;>(try clear fct)
          all_goals
           clear hS2
           have hS:=hS.frzPush (.h) (.t (.t .h))
           (have fct:=(a9 @q89 @q88 @q87 @q1 @q9 @q13 @q14 @q15 @q18);repeat' (first|(refine gO ?_;intro K hK)|(refine kP ?_;clear hK K)|(refine hK _ _ ?_ ?_<;>clear hK K)|(intro wd hxd;have hS:=Sep.xx hxd)|refine sA ?_|(refine bM ?_ ?_<;>intro hb hc<;>first|exact zxf|(simp only [hb];clear hb))|((first|refine zalc ?_|refine zbsl ?_|((with_reducible refine gBox ?_);refine zbox ?_));intro gb wb hS)|((with_reducible refine gSt ?_);refine zs2 ?_;intro wb hS)|(refine G.cn ?_ ?_<;>intro hc<;>try exact zxf)))<;>(try clear fct)
           have fct:=(a9 @q89 @q88 @q87 @q1 @q9 @q13 @q14 @q15 @q18);refine ih _ _ ⟨k+1,vb,us++[lv],out++[(rowM (pickM r p).1 l).1],by omega,by simp [ho],by exact sf,by exact sf,by exact sf,by exact sf,by exact sf,by exact sf,by exact sf,by exact sf,by exact sf,e,(Sep.sub hS (by repeat first|exact Sub.rfl'|exact Sub.n|exact Sub.nil0|(refine Sub.c zr ?_)|refine Sub.skip ?_))⟩ ?_
           rw [hmk];simp only [push_cast,↓reduceIte,zq1,zq2,zq3,zq4,zq5,toN_i,q89,q88,q87,q1,q9,q13,q14,q15,q18];omega
      ·rw [rdF_end _ _ _ _ _ t k out hlt] at e
       rw [e]
       by_cases hk0:fk=0
       ·rw [if_neg (not_not_intro hk0)]
        (have fct:=(a10 @q89 @q88 @q87 @q1 @q9 @q13 @q14 @q15 @q18 @hk0);repeat' (first|(refine gO ?_;intro K hK)|(refine kP ?_;clear hK K)|(refine hK _ _ ?_ ?_<;>clear hK K)|(intro wd hxd;have hS:=Sep.xx hxd)|refine sA ?_|(refine bM ?_ ?_<;>intro hb hc<;>first|exact zxf|(simp only [hb];clear hb))|((first|refine zalc ?_|refine zbsl ?_|((with_reducible refine gBox ?_);refine zbox ?_));intro gb wb hS)|((with_reducible refine gSt ?_);refine zs2 ?_;intro wb hS)|(refine G.cn ?_ ?_<;>intro hc<;>try exact zxf)))<;>(try clear fct)
        all_goals
         (have fct:=(a9 @q89 @q88 @q87 @q1 @q9 @q13 @q14 @q15 @q18);refine rM ?_)
         exact ⟨rv,us,rfl,(Sep.sub hS (by repeat first|exact Sub.rfl'|exact Sub.n|exact Sub.nil0|(refine Sub.c zr ?_)|refine Sub.skip ?_))⟩
       ·rw [if_pos hk0]
        (have fct:=(a10 @q89 @q88 @q87 @q1 @q9 @q13 @q14 @q15 @q18 @hk0);repeat' (first|(refine gO ?_;intro K hK)|(refine kP ?_;clear hK K)|(refine hK _ _ ?_ ?_<;>clear hK K)|(intro wd hxd;have hS:=Sep.xx hxd)|refine sA ?_|(refine bM ?_ ?_<;>intro hb hc<;>first|exact zxf|(simp only [hb];clear hb))|((first|refine zalc ?_|refine zbsl ?_|((with_reducible refine gBox ?_);refine zbox ?_));intro gb wb hS)|((with_reducible refine gSt ?_);refine zs2 ?_;intro wb hS)|(refine G.cn ?_ ?_<;>intro hc<;>try exact zxf)))<;>(try clear fct)
        all_goals
         (have fct:=(a9 @q89 @q88 @q87 @q1 @q9 @q13 @q14 @q15 @q18);refine rM ?_)
         exact RdR.none (b:=⟨fk,0,0,fa⟩) hS
set_option maxHeartbeats 1000000 in
theorem read_pre {n:Nat} {TT:MC} {v1:Value} (d:Dl) {l:List Col} (mode:Int) (s:Str) (w:World) (h1:Rd w eC v1 l) (hs:s.length≤800000) (hl1:l.length≤1000000000) (hl2:∀ c∈l,c.name.length≤100000000000) (hv:ErrV w)
 (ht:∀ {fk fa:Int} {recs:List (List Str)} {g14 g9:Nat} {v:Value} {vs:List Value} {ρ:Fr} {w':World},(1≤mode∧mode≤3)→(∀ r∈recs,r.length≤1000000000∧∀ f∈r,f.length≤1000000)→recs.length≤1000000000→Sep w w' [boxC g14 77 [I fk,I fa],accC v 22 eV vs,frzC eS vs recs,boxC g9 163 [I 0,I 0,I 0,I 0]]→ρ 1=v1→ρ 2=I mode→ρ 9=.pointer (some ⟨g9,0,none⟩)→ρ 13=v→ρ 14=.pointer (some ⟨g14,0,none⟩) →
  G Tryz.prog Tryz.f107 n [.c TT] (RdR w (rdT l mode fk fa recs)) ρ w') :
 G Tryz.prog Tryz.f107 n [.c (readV TT)] (RdR w (readM d l mode s)) (frL 0 [(.agg #[U d.dl,U d.q,I d.e]),v1,I mode,S s]) w:=by
 unfold readV c107
 dsimp only
 have hS:=Sep.start w
 unfold readM
 generalize hC:checkM (l.map nkC)=C at *
 by_cases hc1:C.2=0
 rotate_left
 ·rw [if_pos hc1]
  (have fct:=(aI @hC @hc1);repeat' (first|(refine gO ?_;intro K hK)|(refine kP ?_;clear hK K)|(refine hK _ _ ?_ ?_<;>clear hK K)|(intro wd hxd;have hS:=Sep.xx hxd)|refine sA ?_|(refine bM ?_ ?_<;>intro hb hc<;>first|exact zxf|(simp only [hb];clear hb))|((first|refine zalc ?_|refine zbsl ?_|((with_reducible refine gBox ?_);refine zbox ?_));intro gb wb hS)|((with_reducible refine gSt ?_);refine zs2 ?_;intro wb hS)|(refine zcp 96 (check_spec (h1.ext hS.x) hl2) ?_;intro wb hS)|(refine zcp 85 (checkD_spec d _) ?_;intro wb hS)|(refine G.cn ?_ ?_<;>intro hc<;>try exact zxf)))<;>(try clear fct)
  all_goals
   refine rM ?_
   exact RdR.none (b:=⟨C.2,0,C.1,0⟩) hS
 ·rw [if_neg (not_not_intro hc1)]
  by_cases hmo:mode < 1∨3 < mode
  ·rw [if_pos hmo]
   (have fct:=(aI @hC @hc1);repeat' (first|(refine gO ?_;intro K hK)|(refine kP ?_;clear hK K)|(refine hK _ _ ?_ ?_<;>clear hK K)|(intro wd hxd;have hS:=Sep.xx hxd)|refine sA ?_|(refine bM ?_ ?_<;>intro hb hc<;>first|exact zxf|(simp only [hb];clear hb))|((first|refine zalc ?_|refine zbsl ?_|((with_reducible refine gBox ?_);refine zbox ?_));intro gb wb hS)|((with_reducible refine gSt ?_);refine zs2 ?_;intro wb hS)|(refine zcp 96 (check_spec (h1.ext hS.x) hl2) ?_;intro wb hS)|(refine zcp 85 (checkD_spec d _) ?_;intro wb hS)|(refine G.cn ?_ ?_<;>intro hc<;>try exact zxf)))<;>(try clear fct)
   all_goals
    refine rM ?_
    exact RdR.none (b:=⟨22,0,0,0⟩) hS
  ·rw [if_neg hmo]
   have hm:1≤mode∧mode≤3:=by omega
   cases hr:rightD d
   ·rw [if_pos rfl]
    (have fct:=(a3 @hC @hc1 @hr);repeat' (first|(refine gO ?_;intro K hK)|(refine kP ?_;clear hK K)|(refine hK _ _ ?_ ?_<;>clear hK K)|(intro wd hxd;have hS:=Sep.xx hxd)|refine sA ?_|(refine bM ?_ ?_<;>intro hb hc<;>first|exact zxf|(simp only [hb];clear hb))|((first|refine zalc ?_|refine zbsl ?_|((with_reducible refine gBox ?_);refine zbox ?_));intro gb wb hS)|((with_reducible refine gSt ?_);refine zs2 ?_;intro wb hS)|(refine zcp 96 (check_spec (h1.ext hS.x) hl2) ?_;intro wb hS)|(refine zcp 85 (checkD_spec d _) ?_;intro wb hS)|(refine G.cn ?_ ?_<;>intro hc<;>try exact zxf)))<;>(try clear fct)
    all_goals
     refine rM ?_
     exact RdR.none (b:=⟨1,0,0,0⟩) hS
   ·rw [if_neg zd]
    have hp:=fun w=>wpar_spec d s w zo hr
    have hmb:=parM_mb d wideL s
    have hpl:=parM_len d wideL s
    generalize parM d wideL s=R at *
    (have fct:=(a3 @hC @hc1 @hr);repeat' (first|(refine gO ?_;intro K hK)|(refine kP ?_;clear hK K)|(refine hK _ _ ?_ ?_<;>clear hK K)|(intro wd hxd;have hS:=Sep.xx hxd)|refine sA ?_|(refine bM ?_ ?_<;>intro hb hc<;>first|exact zxf|(simp only [hb];clear hb))|((first|refine zalc ?_|refine zbsl ?_|((with_reducible refine gBox ?_);refine zbox ?_));intro gb wb hS)|((with_reducible refine gSt ?_);refine zs2 ?_;intro wb hS)|(refine zcp 96 (check_spec (h1.ext hS.x) hl2) ?_;intro wb hS)|(refine zcp 85 (checkD_spec d _) ?_;intro wb hS)|((with_reducible (show CallK _ 72 [] _ _ _ _));refine zcp 72 (wide_spec _) ?_;intro wb hS)|(refine zco 38 (hp _) ?_;rintro vb wb ⟨v,vs,rfl,hvl,hS2⟩;have hS:=hS2.ap;simp only [apps] at hS)|(refine G.cn ?_ ?_<;>intro hc<;>try exact zxf)))<;>(try clear fct)
    all_goals
     refine ht (g14:=gb) (vs:=vs) hm (fun r hr=>?_) (by rw [List.length_map];omega) (Sep.sub hS (by repeat first|exact Sub.rfl'|exact Sub.n|exact Sub.nil0|(refine Sub.c zr ?_)|refine Sub.skip ?_)) (by simp only [push_cast,↓reduceIte,zq1,zq2,zq3,zq4,zq5]) (by simp only [push_cast,↓reduceIte,zq1,zq2,zq3,zq4,zq5]) (by simp only [push_cast,↓reduceIte,zq1,zq2,zq3,zq4,zq5]<;>rfl) (by simp only [push_cast,↓reduceIte,zq1,zq2,zq3,zq4,zq5]) (by simp only [push_cast,↓reduceIte,zq1,zq2,zq3,zq4,zq5])
     have hb:=hmb r hr
     exact ⟨by omega,fun f hf=>by have:=hb.2 f hf;omega⟩
theorem read_spec {v1:Value} (d:Dl) {l:List Col} (mode:Int) (s:Str) (w:World) (h1:Rd w eC v1 l) (hs:s.length≤800000) (hl1:l.length≤1000000000) (hl2:∀ c∈l,c.name.length≤100000000000) (hv:ErrV w) :
 Ret Tryz.prog 107 #[(.agg #[U d.dl,U d.q,I d.e]),v1,I mode,S s] w (RdR w (readM d l mode s)):=by
 refine En 147 c107 Tryz.func107 ?_
 change G _ _ _ [.c (readV readT)] _ _ _
 exact read_pre d mode s w h1 hs hl1 hl2 hv fun hm hmb hrl hS q1 q2 q9 q13 q14=>read_tail h1 hm hl1 hl2 hv hmb hrl hS q1 q2 q9 q13 q14
def recF:List Val→List Col→List Str→List Str×Int×Int
 | v :: r,c :: l,out=>if (encM v c.kind c.null).2≠0 then ([],(out.length:Int),(encM v c.kind c.null).2) else recF r l (out++[(encM v c.kind c.null).1])
 | _,_,out=>(out,(out.length:Int),0)
def recM (r:List Val) (l:List Col):List Str×Int×Int:=if (r.length:Int)=l.length then recF r l [] else ([],(r.length:Int),10)
end Go.Proofs.YtllanbmpacgigaaGreatDoor
