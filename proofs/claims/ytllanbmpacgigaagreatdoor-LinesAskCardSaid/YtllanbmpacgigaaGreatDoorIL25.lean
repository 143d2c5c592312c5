/- Texts of the proof, joined. -/
import Derived.Test.YtllanbmpacgigaaGreatDoorIX25
import Derived.Test.YtllanbmpacgigaaGreatDoorIW20
namespace Go.Proofs.YtllanbmpacgigaaGreatDoor
open Operand renaming tmp→Y,const→yc
open MC renaming seq→Z,reg→yr,skip→yk,cond→yd
open MO renaming call→yl,bin→yb
open Nat renaming reduceAdd→zq1,reduceLeDiff→zq2,reduceEqDiff→zq3,reduceLT→zq4
open Int renaming reduceToNat→zq5
set_option linter.unusedSimpArgs false
set_option linter.unusedVariables false
attribute [local irreducible] SemK UnitK StK AlcK BslK CallK CallV Instr.box Builtin.append_ Instr.makeSlice Instr.makeMap Instr.lookup Instr.mapUpdate Instr.sliceAt convert
open Go.RowKit
noncomputable def diffE (la lb:List Col) (ra rb:List (List Val)) (keys:List Str):Except Int (List Chg) :=
 if eqD la lb=false then .error 21 else if (dchkM la ra keys).2≠0 then .error (dchkM la ra keys).2 else if (dchkM lb rb keys).2≠0 then .error (dchkM lb rb keys).2 else .ok (difM (placesM la keys) ra rb)
def DiffR (w:World) (x:Except Int (List Chg)) (res:Value) (w':World):Prop :=
 match x with
 | .error e=>e≠0∧res=.tuple #[.slice none 0 0,I e]∧Ext w w'
 | .ok D=>∃ v vs,res=.tuple #[v,I 0]∧Sep w w' [accC v 126 eCg vs,frzG vs D]
theorem fm_take {β:Type} (f:List Val→Option β) (l:List (List Val)) (k:Nat) (h:(k:Int) < l.length):(l.take (k+1)).filterMap f=(l.take k).filterMap f++(match f (l.getD k []) with|some c=>[c]|none=>[]):=by
 rw [takeD l k h,List.filterMap_append]
 congr 1
 have:l.getD k default=l.getD k []:=rfl
 rw [this]
 generalize l.getD k []=x
 rw [List.filterMap_cons,List.filterMap_nil]
 cases f x<;>rfl
theorem fm_len {β:Type} (f:List Val→Option β) (l:List (List Val)) (k:Nat):((l.take k).filterMap f).length≤k:=Nat.le_trans (List.length_filterMap_le _ _) (by rw [List.length_take];omega)
theorem mb_take (ra:List (List Val)) (ps:List Int) (k:Nat) (h:(k:Int) < ra.length):mput (mbM ((ra.take k).map fun r=>markM tailW r ps)) (markM tailW (ra.getD k []) ps) true=mbM ((ra.take (k+1)).map fun r=>markM tailW r ps):=by
 rw [mbM_put,takeD ra k h,List.map_append]
 rfl
attribute [local irreducible] accC boxC mapC frzC frzG
def c76l1:MC:=(Z (yr [qq 57 (yb .lss (Y 56) (Y 55))]) (Z (yd (Y 57) yk (.exit 0)) (Z (.blk 1 (Z (yr [qq 58 (.adr 1 (Y 54) (Y 56)),qq 59 (.ld none (Y 58)),qm 14 59]) (Z (yr [qq 61 (.fad 0 (Y 3)),qq 62 (.ld none (Y 61)),qm 63 14,qq 64 (yl 77 [(Y 62),(Y 63)]),qm 60 64,qq 65 (.ext 0 (Y 60)),qq 66 (.ext 1 (Y 60)),qq 67 (.ext 2 (Y 60)),qq 15 (.alc 121 [(S []),(.int .i64 0),(.bool false)]),qn (.st 3 (Y 15) (Y 65)),qm 16 66,qm 17 67]) (yr [qm 68 12,qm 69 16,qq 70 (.bsl 3 [(.int .i64 0)] 1 [⟨0,⟨1,(Y 69)⟩⟩]),qq 71 (.raw (.call ⟨(.builtin .append),#[(Y 68),(Y 70)],#[168,168]⟩) 168),qm 12 71])))) (yr [qq 72 (yb .add (Y 56) (ki 1)),qm 56 72]))))
def c76l2:MC:=(Z (yr [qq 79 (yb .lss (Y 78) (Y 77))]) (Z (yd (Y 79) yk (.exit 2)) (Z (.blk 3 (Z (yr [qq 80 (.adr 1 (Y 76) (Y 78)),qq 81 (.ld none (Y 80)),qm 21 81]) (yr [qm 82 19,qm 83 21,qm 84 12,qq 85 (yl 110 [(Y 83),(Y 84)]),qm 86 21,qn (.raw (.mapUpdate 169 (Y 82) (Y 85) (Y 86)) 0)]))) (yr [qq 87 (yb .add (Y 78) (ki 1)),qm 78 87]))))
def c76l3:MC:=(Z (yr [qq 92 (yb .lss (Y 91) (Y 90))]) (Z (yd (Y 92) yk (.exit 4)) (Z (.blk 5 (Z (yr [qq 93 (.adr 1 (Y 89) (Y 91)),qq 94 (.ld none (Y 93)),qm 24 94]) (Z (yr [qm 95 24,qm 96 12,qq 97 (yl 110 [(Y 95),(Y 96)]),qm 25 97]) (Z (yr [qm 98 18,qm 99 25,qn (.raw (.mapUpdate 149 (Y 98) (Y 99) (kb true)) 0)]) (Z (yr [qm 101 19,qm 102 25,qq 103 (.raw (.lookup 169 (Y 101) (Y 102) true) 171),qm 100 103,qq 104 (.ext 0 (Y 100)),qq 105 (.ext 1 (Y 100)),qm 26 104,qm 27 105]) (.blk 6 (Z (yr [qm 107 27,qq 108 (.un .not (Y 107)),qm 106 108]) (yd (Y 106) (yr [qm 109 22,qm 110 24,qq 111 (yl 111 [(Y 110)]),qq 112 (.bld [(.int .i64 0),(.slice none 0 0),(.slice none 0 0)] [⟨0,⟨1,(ki 1)⟩⟩,⟨1,⟨1,(Y 111)⟩⟩]),qq 113 (.bsl 126 [(.int .i64 0),(.slice none 0 0),(.slice none 0 0)] 1 [⟨0,⟨3,(Y 112)⟩⟩]),qq 114 (.raw (.call ⟨(.builtin .append),#[(Y 109),(Y 113)],#[115,115]⟩) 115),qm 22 114]) (Z (yr [qm 116 24,qm 117 26,qq 118 (yl 112 [(Y 116),(Y 117)]),qq 119 (.un .not (Y 118)),qm 115 119]) (yd (Y 115) (yr [qm 120 22,qm 121 24,qq 122 (yl 111 [(Y 121)]),qm 123 26,qq 124 (yl 111 [(Y 123)]),qq 125 (.bld [(.int .i64 0),(.slice none 0 0),(.slice none 0 0)] [⟨0,⟨1,(ki 2)⟩⟩,⟨1,⟨1,(Y 122)⟩⟩,⟨2,⟨1,(Y 124)⟩⟩]),qq 126 (.bsl 126 [(.int .i64 0),(.slice none 0 0),(.slice none 0 0)] 1 [⟨0,⟨3,(Y 125)⟩⟩]),qq 127 (.raw (.call ⟨(.builtin .append),#[(Y 120),(Y 126)],#[115,115]⟩) 115),qm 22 127]) yk)))))))))) (yr [qq 128 (yb .add (Y 91) (ki 1)),qm 91 128]))))
def c76l4:MC:=(Z (yr [qq 133 (yb .lss (Y 132) (Y 131))]) (Z (yd (Y 133) yk (.exit 7)) (Z (.blk 8 (Z (yr [qq 134 (.adr 1 (Y 130) (Y 132)),qq 135 (.ld none (Y 134)),qm 29 135]) (Z (yr [qm 136 18,qm 137 29,qm 138 12,qq 139 (yl 110 [(Y 137),(Y 138)]),qq 140 (.raw (.lookup 149 (Y 136) (Y 139) false) 4),qq 141 (.un .not (Y 140))]) (yd (Y 141) (yr [qm 142 22,qm 143 29,qq 144 (yl 111 [(Y 143)]),qq 145 (.bld [(.int .i64 0),(.slice none 0 0),(.slice none 0 0)] [⟨0,⟨1,(ki 3)⟩⟩,⟨2,⟨1,(Y 144)⟩⟩]),qq 146 (.bsl 126 [(.int .i64 0),(.slice none 0 0),(.slice none 0 0)] 1 [⟨0,⟨3,(Y 145)⟩⟩]),qq 147 (.raw (.call ⟨(.builtin .append),#[(Y 142),(Y 146)],#[115,115]⟩) 115),qm 22 147]) yk)))) (yr [qq 148 (yb .add (Y 132) (ki 1)),qm 132 148]))))
def c76:MC:=(Z (yr [qq 3 (.raw (.box 119 (Y 0)) 0),qq 4 (.raw (.box 119 (Y 1)) 0),qq 6 (.mv (yc (.slice none 0 0))),qq 7 (.mv (ki 0))]) (Z (Z (yr [qq 30 (.fad 0 (Y 3)),qq 31 (.ld none (Y 30)),qq 32 (.fad 0 (Y 4)),qq 33 (.ld none (Y 32)),qq 34 (yl 108 [(Y 31),(Y 33)]),qq 35 (.un .not (Y 34))]) (yd (Y 35) (Z (yr [qq 6 (.mv (yc (.slice none 0 0))),qq 7 (.mv (ki 21))]) .ret) yk)) (Z (Z (yr [qq 37 (.ld (.some 2) (Y 3)),qm 38 2,qq 39 (yl 109 [(Y 37),(Y 38)]),qm 36 39,qq 40 (.ext 0 (Y 36)),qq 41 (.ext 1 (Y 36)),qm 8 40,qm 9 41]) (Z (yr [qm 42 9,qq 43 (yb .neq (Y 42) (ki 0))]) (yd (Y 43) (Z (yr [qm 44 9,qq 6 (.mv (yc (.slice none 0 0))),qm 7 44]) .ret) yk))) (Z (Z (yr [qq 46 (.ld (.some 2) (Y 4)),qm 47 2,qq 48 (yl 109 [(Y 46),(Y 47)]),qm 45 48,qq 49 (.ext 0 (Y 45)),qq 50 (.ext 1 (Y 45)),qm 10 49,qm 11 50]) (Z (yr [qm 51 11,qq 52 (yb .neq (Y 51) (ki 0))]) (yd (Y 52) (Z (yr [qm 53 11,qq 6 (.mv (yc (.slice none 0 0))),qm 7 53]) .ret) yk))) (Z (yr [qq 12 (.mv (yc (.slice none 0 0)))]) (Z (Z (yr [qm 54 2,qq 55 (.len (Y 54)),qq 56 (.mv (ki 0))]) (.blk 0 (.loop c76l1))) (Z (yr [qq 73 (.raw (.makeMap 149 none) 149),qq 74 (.raw (.makeMap 169 none) 169),qm 18 73,qm 19 74]) (Z (Z (yr [qq 75 (.fad 1 (Y 4)),qq 76 (.ld none (Y 75)),qq 77 (.len (Y 76)),qq 78 (.mv (ki 0))]) (.blk 2 (.loop c76l2))) (Z (yr [qq 22 (.mv (yc (.slice none 0 0)))]) (Z (Z (yr [qq 88 (.fad 1 (Y 3)),qq 89 (.ld none (Y 88)),qq 90 (.len (Y 89)),qq 91 (.mv (ki 0))]) (.blk 4 (.loop c76l3))) (Z (Z (yr [qq 129 (.fad 1 (Y 4)),qq 130 (.ld none (Y 129)),qq 131 (.len (Y 130)),qq 132 (.mv (ki 0))]) (.blk 7 (.loop c76l4))) (Z (yr [qm 149 22,qm 6 149,qq 7 (.mv (ki 0))]) .ret))))))))))))
def diffT4:MC:=match c76 with
 | .seq _ (.seq _ (.seq _ (.seq _ (.seq _ (.seq _ (.seq _ (.seq _ (.seq _ (.seq _ t)))))))))=>t
 | _=>.skip
theorem diff_tail4 {va ua vb ub:Value} {ra rb:List (List Val)} {ps:List Int} {la:List Col} {D:List Chg} {vs:List (Int×Value×Value)} {lp lc:Value} {gf g3 g4 n:Nat} {w wl:World} {u:Fr} (hb2:RdT w eVal ub rb) (oa:One vb)
 (hro:RowsOk la.length ps rb) (hfb:∀ i,i < rb.length→FineV (rb.getD i [])) (hfp:FineP ps la.length) (hll:la.length≤1000000) (hrb:rb.length≤1000000) (hT:Tab w) (hD:D.length≤1000000)
 (q4:u 4=.pointer (some ⟨g4,0,none⟩)) (q12:u 12=lp) (q18:u 18=.map (some gf)) (q22:u 22=lc)
 (hS:Sep w wl [accC lc 126 eCg vs,frzG vs D,accC lp 3 eI ps,mapC gf Value.bool (mbM (ra.map fun r=>markM tailW r ps)),boxC g4 119 [vb,ub]]) :
 G Tryz.prog Tryz.f76 n [.c diffT4] (DiffR w (.ok (D++rb.filterMap (dif2 ps ra)))) u wl:=by
 unfold diffT4 c76
 dsimp only
 obtain ⟨us,g1,l1,i1⟩:=hb2
 have hbd:=g1.bd
 (have fct:=(a4 @q4 @q12 @q18 @q22);repeat' (first|refine G.reg fun K hK=>?_|(refine kM ?_;clear hK K)|refine sA ?_|((first|refine zalc ?_|refine zbsl ?_|((with_reducible refine gBox ?_);refine zbox ?_));intro gb wb hS)|((with_reducible refine gSt ?_);refine zs2 ?_;intro wb hS)|(refine G.cn ?_ ?_<;>intro hc<;>try exact zxf)))<;>(try clear fct)
 all_goals
 refine G.loop (fun r w'=>∃ (k:Nat) (lc:Value) (vs:List (Int×Value×Value)),k≤us.length∧r 132=I k∧r 131=I us.length∧r 130=ub∧r 12=lp∧r 18=.map (some gf)∧r 22=lc ∧
  Sep w w' [accC lc 126 eCg vs,frzG vs (D++(rb.take k).filterMap (dif2 ps ra)),accC lp 3 eI ps,mapC gf Value.bool (mbM (ra.map fun r=>markM tailW r ps)),boxC g4 119 [vb,ub]]) (fun r _=>us.length - toN (r 132)) ?_ ?_
 ·have fct:=(a4 @q4 @q12 @q18 @q22);exact ⟨0,lc,vs,Nat.zero_le _,by exact sf,by exact sf,by exact sf,by exact sf,by exact sf,by exact sf,by rw [List.take_zero,List.filterMap_nil,List.append_nil];exact hS⟩
 ·clear hS q4 q12 q18 q22
  rintro u2 wl2 ⟨k,lc,vs,hk,q132,q131,q130,q12,q18,q22,hS⟩ ih
  have hm:toN (u2 132)=k:=by rw [q132];simp [toN]
  have h1k:=g1.ext hS.x
  have hgl:=hS.frzGLen (.t .h)
  by_cases hlt:(k:Int) < us.length
  ·have hst:=fm_take (dif2 ps ra) rb k zo
   have hfl:=fm_len (dif2 ps ra) rb k
   have hrk:=i1 k zo
   have hwk:=hro.w (rb.getD k []) (getD_mem rb k zo)
   have hfk:=hfb k zo
   rw [List.length_append] at hgl
   generalize rb.getD k []=rk at hst hrk hwk hfk
   have hmk:=fun (w2:World) (hx:Ext w w2) (hp:Rd w2 eI lp ps)=>markv_spec (w:=w2) (hrk.ext hx) hp hfk ⟨hfp.1,fun p hp=>by have:=hfp.2 p hp;omega⟩ (hT.ext hx)
   rw [mark_vw rk ps hwk.2] at hmk
   have hd2:dif2 ps ra rk=if markM tailW rk ps∈ra.map (fun r=>markM tailW r ps) then none else some ⟨3,[],rk⟩:=rfl
   rw [hd2] at hst
   have hmi:=atM_in (ra.map fun r=>markM tailW r ps) (markM tailW rk ps)
   generalize markM tailW rk ps=mk at hst hmk hmi
   by_cases hin:mk∈ra.map fun r=>markM tailW r ps
   ·rw [if_pos hin] at hst
    simp only [List.append_nil] at hst
    have hdi:decide (0≤atM (ra.map fun r=>markM tailW r ps) mk)=true:=decide_eq_true (hmi.2 hin)
    (have fct:=(a8 @q132 @q131 @q130 @q12 @q18 @q22 @mbM_get @hdi);repeat' (first|refine G.reg fun K hK=>?_|(refine kM ?_;clear hK K)|refine sA ?_|((first|refine zalc ?_|refine zbsl ?_|((with_reducible refine gBox ?_);refine zbox ?_));intro gb wb hS)|((with_reducible refine gSt ?_);refine zs2 ?_;intro wb hS)|(refine zcp 110 (hmk _ hS.x (Sep.rd hS zr)) ?_;intro wb hS)|(refine zlk ?_)|(refine G.cn ?_ ?_<;>intro hc<;>try exact zxf)))<;>(try clear fct)
    all_goals
     have fct:=(a6 @q132 @q131 @q130 @q12 @q18 @q22);refine ih _ _ ⟨k+1,lc,vs,by omega,by exact sf,by exact sf,by exact sf,by exact sf,by exact sf,by exact sf,by rw [hst];exact hS⟩ ?_
     rw [hm];simp only [push_cast,↓reduceIte,zq1,zq2,zq3,zq4,zq5,toN_i,q132,q131,q130,q12,q18,q22];omega
   ·rw [if_neg hin] at hst
    simp only [] at hst
    have hdi:decide (0≤atM (ra.map fun r=>markM tailW r ps) mk)=false:=decide_eq_false (fun h=>hin (hmi.1 h))
    (have fct:=(a8 @q132 @q131 @q130 @q12 @q18 @q22 @mbM_get @hdi);repeat' (first|refine G.reg fun K hK=>?_|(refine kM ?_;clear hK K)|refine sA ?_|((first|refine zalc ?_|refine zbsl ?_|((with_reducible refine gBox ?_);refine zbox ?_));intro gb wb hS)|((with_reducible refine gSt ?_);refine zs2 ?_;intro wb hS)|(refine zcp 110 (hmk _ hS.x (Sep.rd hS zr)) ?_;intro wb hS)|(refine zlk ?_)|((with_reducible (show CallK _ 111 [us.getD k default] _ _ _ _));refine zco 111 (cloneV_spec (hrk.ext hS.x) zo) ?_;rintro vx wb hS2;have hS:=hS2.ap;simp only [apps] at hS)|(refine zap (y:=((3:Int),Value.slice none 0 0,vx)) ?_ (hy:=by rfl);intro vb wb hS)|(refine G.cn ?_ ?_<;>intro hc<;>try exact zxf)))<;>(try clear fct)
    all_goals
     have hS:=hS.frzGNew (k:=3) .h (.t .h)
     rw [List.append_assoc,←hst] at hS
     have fct:=(a6 @q132 @q131 @q130 @q12 @q18 @q22);refine ih _ _ ⟨k+1,_,_,by omega,by exact sf,by exact sf,by exact sf,by exact sf,by exact sf,by exact sf,(Sep.sub hS zu)⟩ ?_
     rw [hm];simp only [push_cast,↓reduceIte,zq1,zq2,zq3,zq4,zq5,toN_i,q132,q131,q130,q12,q18,q22];omega
  ·rw [List.take_of_length_le zo] at hS
   (have fct:=(a6 @q132 @q131 @q130 @q12 @q18 @q22);repeat' (first|refine G.reg fun K hK=>?_|(refine kM ?_;clear hK K)|refine sA ?_|((first|refine zalc ?_|refine zbsl ?_|((with_reducible refine gBox ?_);refine zbox ?_));intro gb wb hS)|((with_reducible refine gSt ?_);refine zs2 ?_;intro wb hS)|(refine G.cn ?_ ?_<;>intro hc<;>try exact zxf)))<;>(try clear fct)
   all_goals
    (have fct:=(a6 @q132 @q131 @q130 @q12 @q18 @q22);refine rM ?_)
    exact ⟨_,_,rfl,(Sep.sub hS zu)⟩
def diffJ:MC:=match c76 with
 | .seq _ (.seq _ (.seq _ (.seq _ (.seq _ (.seq _ (.seq _ (.seq _ (.seq _ (.seq t _)))))))))=>t
 | _=>.skip
def diffT3:MC:=match c76 with
 | .seq _ (.seq _ (.seq _ (.seq _ (.seq _ (.seq _ (.seq _ (.seq _ t)))))))=>t
 | _=>.skip
theorem diffT3_eq:diffT3=.seq (.reg [⟨none,some 22,.mv (.const (.slice none 0 0))⟩]) (.seq diffJ diffT4):=rfl
set_option maxHeartbeats 2000000 in
theorem diff_tail3 {va ua vb ub:Value} {ra rb:List (List Val)} {ps:List Int} {la:List Col} {ur:List Value} {lp:Value} {gf gs g3 g4 n:Nat} {w wl:World} {u:Fr} (ha2:RdT w eVal ua ra) (hb2:RdT w eVal ub rb) (oa:One va) (ob:One vb) (hur:ur.length=rb.length) (hui:∀ i,i < rb.length→Rd w eVal (ur.getD i default) (rb.getD i []))
 (hra:RowsOk la.length ps ra) (hro:RowsOk la.length ps rb) (hfa:∀ i,i < ra.length→FineV (ra.getD i [])) (hfb:∀ i,i < rb.length→FineV (rb.getD i [])) (hfp:FineP ps la.length) (hll:la.length≤1000000) (hral:ra.length≤1000000) (hrb:rb.length≤1000000) (hT:Tab w)
 (q3:u 3=.pointer (some ⟨g3,0,none⟩)) (q4:u 4=.pointer (some ⟨g4,0,none⟩)) (q12:u 12=lp) (q18:u 18=.map (some gf)) (q19:u 19=.map (some gs))
 (hS:Sep w wl [accC lp 3 eI ps,mapC gf Value.bool (mbM []),mapC gs (fun i:Int=>ur.getD i.toNat default) (atsF ps rb 0 fun _=>none),boxC g4 119 [vb,ub],boxC g3 119 [va,ua]]) :
 G Tryz.prog Tryz.f76 n [.c diffT3] (DiffR w (.ok (difM ps ra rb))) u wl:=by
 rw [diffT3_eq]
 have hTl:=fun (D:List Chg) (vs:List (Int×Value×Value)) (lp lc:Value) (gf g4 n:Nat) (wl:World) (u:Fr)=>@diff_tail4 va ua vb ub ra rb ps la D vs lp lc gf g3 g4 n w wl u hb2 ob hro hfb hfp hll hrb hT
 generalize diffT4=T at hTl ⊢
 unfold diffJ c76
 dsimp only
 obtain ⟨us,g1,l1,i1⟩:=ha2
 have hbd:=g1.bd
 (have fct:=(a5 @q3 @q4 @q12 @q18 @q19);repeat' (first|refine G.reg fun K hK=>?_|(refine kM ?_;clear hK K)|refine sA ?_|((first|refine zalc ?_|refine zbsl ?_|((with_reducible refine gBox ?_);refine zbox ?_));intro gb wb hS)|((with_reducible refine gSt ?_);refine zs2 ?_;intro wb hS)|(refine G.cn ?_ ?_<;>intro hc<;>try exact zxf)))<;>(try clear fct)
 all_goals
 have hS:=(hS.nil 126 eCg).frzG0
 refine G.loop (fun r w'=>∃ (k:Nat) (lc:Value) (vs:List (Int×Value×Value)),k≤us.length∧r 91=I k∧r 90=I us.length∧r 89=ua∧r 4=.pointer (some ⟨g4,0,none⟩)∧r 12=lp∧r 18=.map (some gf)∧r 19=.map (some gs)∧r 22=lc ∧
  Sep w w' [accC lc 126 eCg vs,frzG vs ((ra.take k).filterMap (dif1 ps rb)),accC lp 3 eI ps,mapC gf Value.bool (mbM ((ra.take k).map fun r=>markM tailW r ps)),mapC gs (fun i:Int=>ur.getD i.toNat default) (atsF ps rb 0 fun _=>none),boxC g4 119 [vb,ub]]) (fun r _=>us.length - toN (r 91)) ?_ ?_
 ·have fct:=(a5 @q3 @q4 @q12 @q18 @q19);exact ⟨0,.slice none 0 0,[],Nat.zero_le _,by exact sf,by exact sf,by exact sf,by exact sf,by exact sf,by exact sf,by exact sf,by exact sf,(Sep.sub hS zu)⟩
 ·clear hS q3 q4 q12 q18 q19
  rintro u2 wl2 ⟨k,lc,vs,hk,q91,q90,q89,q4,q12,q18,q19,q22,hS⟩ ih
  have hm:toN (u2 91)=k:=by rw [q91];simp [toN]
  have h1k:=g1.ext hS.x
  have hgl:=hS.frzGLen (.t .h)
  by_cases hlt:(k:Int) < us.length
  ·have hst:=fm_take (dif1 ps rb) ra k zo
   have hmt:=mb_take ra ps k zo
   have hfl:=fm_len (dif1 ps rb) ra k
   have hrk:=i1 k zo
   have hwk:=hra.w (ra.getD k []) (getD_mem ra k zo)
   have hfk:=hfa k zo
   generalize ra.getD k []=rk at hst hmt hrk hwk hfk
   have hmk:=fun (w2:World) (hx:Ext w w2) (hp:Rd w2 eI lp ps)=>markv_spec (w:=w2) (hrk.ext hx) hp hfk ⟨hfp.1,fun p hp=>by have:=hfp.2 p hp;omega⟩ (hT.ext hx)
   rw [mark_vw rk ps hwk.2] at hmk
   have hd1:dif1 ps rb rk=match atsF ps rb 0 (fun _=>none) (markM tailW rk ps) with|none=>some ⟨1,rk,[]⟩|some n=>if rk=rb.getD n.toNat [] then none else some ⟨2,rk,rb.getD n.toNat []⟩:=rfl
   rw [hd1] at hst
   have hrg:=atsF_get ps rb 0 (fun _=>none) hro.d (markM tailW rk ps)
   generalize markM tailW rk ps=mk at hst hmk hmt hrg
   cases ha:atsF ps rb 0 (fun _=>none) mk with
   | none =>
     rw [ha] at hst
     simp only [] at hst
     (have fct:=(a9 @q91 @q90 @q89 @q4 @q12 @q18 @q19 @q22 @ha);repeat' (first|refine G.reg fun K hK=>?_|(refine kM ?_;clear hK K)|refine sA ?_|((first|refine zalc ?_|refine zbsl ?_|((with_reducible refine gBox ?_);refine zbox ?_));intro gb wb hS)|((with_reducible refine gSt ?_);refine zs2 ?_;intro wb hS)|(refine zcp 110 (hmk _ hS.x (Sep.rd hS zr)) ?_;intro wb hS)|(refine zlk ?_)|(refine zmu ?_;intro wb hS)|((with_reducible (show CallK _ 111 [us.getD k default] _ _ _ _));refine zco 111 (cloneV_spec (hrk.ext hS.x) zo) ?_;rintro vx wb hS2;have hS:=hS2.ap;simp only [apps] at hS)|(refine zap (y:=((1:Int),vx,Value.slice none 0 0)) ?_ (hy:=by rfl);intro vb wb hS)|(refine G.cn ?_ ?_<;>intro hc<;>try exact zxf)))<;>(try clear fct)
     all_goals
      have hS:=hS.frzGOld (k:=1) .h (.t .h)
      rw [←hst] at hS
      rw [hmt] at hS
      have fct:=(a8 @q91 @q90 @q89 @q4 @q12 @q18 @q19 @q22);refine ih _ _ ⟨k+1,_,_,by omega,by exact sf,by exact sf,by exact sf,by exact sf,by exact sf,by exact sf,by exact sf,by exact sf,(Sep.sub hS zu)⟩ ?_
      rw [hm];simp only [push_cast,↓reduceIte,zq1,zq2,zq3,zq4,zq5,toN_i,q91,q90,q89,q4,q12,q18,q19,q22];omega
   | some i =>
     rw [ha] at hst
     simp only [] at hst
     have hib:0≤i∧i < rb.length:=by
      rcases (hrg i).1 ha with ⟨j,rfl,hj,_⟩|⟨h,_⟩
      ·omega
      ·cases h
     have hro2:=hui i.toNat zo
     have hwo:=hro.w (rb.getD i.toNat []) (getD_mem rb i.toNat zo)
     generalize hov:ur.getD i.toNat default=ov at hro2
     generalize rb.getD i.toNat []=ro at hst hro2 hwo
     have heq:=fun (w2:World) (hx:Ext w w2)=>eqV_spec (w:=w2) (hrk.ext hx) (hro2.ext hx)
     by_cases hq:rk=ro
     ·rw [if_pos hq] at hst
      rw [decide_eq_true hq] at heq
      simp only [List.append_nil] at hst
      (have fct:=(a10 @q91 @q90 @q89 @q4 @q12 @q18 @q19 @q22 @ha @hov);repeat' (first|refine G.reg fun K hK=>?_|(refine kM ?_;clear hK K)|refine sA ?_|((first|refine zalc ?_|refine zbsl ?_|((with_reducible refine gBox ?_);refine zbox ?_));intro gb wb hS)|((with_reducible refine gSt ?_);refine zs2 ?_;intro wb hS)|(refine zcp 110 (hmk _ hS.x (Sep.rd hS zr)) ?_;intro wb hS)|(refine zlk ?_)|(refine zmu ?_;intro wb hS)|(refine zcp 112 (heq _ hS.x) ?_;intro wb hS)|(refine G.cn ?_ ?_<;>intro hc<;>try exact zxf)))<;>(try clear fct)
      all_goals
       rw [←hst] at hS
       rw [hmt] at hS
       have fct:=(a8 @q91 @q90 @q89 @q4 @q12 @q18 @q19 @q22);refine ih _ _ ⟨k+1,_,_,by omega,by exact sf,by exact sf,by exact sf,by exact sf,by exact sf,by exact sf,by exact sf,by exact sf,(Sep.sub hS zu)⟩ ?_
       rw [hm];simp only [push_cast,↓reduceIte,zq1,zq2,zq3,zq4,zq5,toN_i,q91,q90,q89,q4,q12,q18,q19,q22];omega
     ·rw [if_neg hq] at hst
      rw [decide_eq_false hq] at heq
      simp only [] at hst
      (have fct:=(a10 @q91 @q90 @q89 @q4 @q12 @q18 @q19 @q22 @ha @hov);repeat' (first|refine G.reg fun K hK=>?_|(refine kM ?_;clear hK K)|refine sA ?_|((first|refine zalc ?_|refine zbsl ?_|((with_reducible refine gBox ?_);refine zbox ?_));intro gb wb hS)|((with_reducible refine gSt ?_);refine zs2 ?_;intro wb hS)|(refine zcp 110 (hmk _ hS.x (Sep.rd hS zr)) ?_;intro wb hS)|(refine zlk ?_)|(refine zmu ?_;intro wb hS)|(refine zcp 112 (heq _ hS.x) ?_;intro wb hS)|((with_reducible (show CallK _ 111 [us.getD k default] _ _ _ _));refine zco 111 (cloneV_spec (hrk.ext hS.x) zo) ?_;rintro vx wb hS2;have hS:=hS2.ap;simp only [apps] at hS)|((with_reducible (show CallK _ 111 [ov] _ _ _ _));refine zco 111 (cloneV_spec (hro2.ext hS.x) zo) ?_;rintro vy wb hS2;have hS:=hS2.ap;simp only [apps] at hS)|(refine zap (y:=((2:Int),vx,vy)) ?_ (hy:=by rfl);intro vb wb hS)|(refine G.cn ?_ ?_<;>intro hc<;>try exact zxf)))<;>(try clear fct)
      all_goals
       have hS:=hS.frzGTwo (k:=2) (.t .h) .h (.t .h)
       rw [←hst] at hS
       rw [hmt] at hS
       have fct:=(a8 @q91 @q90 @q89 @q4 @q12 @q18 @q19 @q22);refine ih _ _ ⟨k+1,_,_,by omega,by exact sf,by exact sf,by exact sf,by exact sf,by exact sf,by exact sf,by exact sf,by exact sf,(Sep.sub hS zu)⟩ ?_
       rw [hm];simp only [push_cast,↓reduceIte,zq1,zq2,zq3,zq4,zq5,toN_i,q91,q90,q89,q4,q12,q18,q19,q22];omega
  ·rw [List.take_of_length_le zo] at hS
   have hfl:=fm_len (dif1 ps rb) ra ra.length
   rw [List.take_length] at hfl
   clear ih
   (have fct:=(a8 @q91 @q90 @q89 @q4 @q12 @q18 @q19 @q22);repeat' (first|refine G.reg fun K hK=>?_|(refine kM ?_;clear hK K)|refine sA ?_|((first|refine zalc ?_|refine zbsl ?_|((with_reducible refine gBox ?_);refine zbox ?_));intro gb wb hS)|((with_reducible refine gSt ?_);refine zs2 ?_;intro wb hS)|(refine G.cn ?_ ?_<;>intro hc<;>try exact zxf)))<;>(try clear fct)
   all_goals
    exact hTl (ra.filterMap (dif1 ps rb)) vs lp lc gf g4 _ _ _ zo (by simp only [push_cast,↓reduceIte,zq1,zq2,zq3,zq4,zq5,q91,q90,q89,q4,q12,q18,q19,q22]) (by simp only [push_cast,↓reduceIte,zq1,zq2,zq3,zq4,zq5,q91,q90,q89,q4,q12,q18,q19,q22]) (by simp only [push_cast,↓reduceIte,zq1,zq2,zq3,zq4,zq5,q91,q90,q89,q4,q12,q18,q19,q22]) (by simp only [push_cast,↓reduceIte,zq1,zq2,zq3,zq4,zq5,q91,q90,q89,q4,q12,q18,q19,q22]) (Sep.sub hS zu)
end Go.Proofs.YtllanbmpacgigaaGreatDoor
