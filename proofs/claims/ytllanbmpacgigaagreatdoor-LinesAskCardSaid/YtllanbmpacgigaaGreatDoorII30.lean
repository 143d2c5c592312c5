/- Texts of the proof, joined. -/
import Derived.Test.YtllanbmpacgigaaGreatDoorIG30
import Derived.Test.YtllanbmpacgigaaGreatDoorIJ27
namespace Go.Proofs.YtllanbmpacgigaaGreatDoor
open Operand renaming tmp→Y,const→yc
open MC renaming seq→Z,reg→yr,skip→yk,cond→yd
open MO renaming call→yl,bin→yb
open Nat renaming reduceAdd→zq1,reduceLeDiff→zq2,reduceEqDiff→zq3,reduceLT→zq4
open Int renaming reduceToNat→zq5
set_option linter.unusedSimpArgs false
set_option linter.unusedVariables false
attribute [local irreducible] SemK UnitK StK AlcK BslK CallK CallV Instr.box Builtin.append_ Instr.makeSlice Instr.makeMap Instr.lookup Instr.mapUpdate Instr.sliceAt convert
open Go.RowKit
section
variable {g r:Nat} {d:Dl} {lv:Value} {m:Str→Option Str} {M:List Chk} {w w0:World}
def c48:MC:=(Z (yr [qq 4 (.mv (yc (S []))),qq 5 (.mv (ki 0))]) (Z (yr [qm 18 1,qq 19 (yl 44 [(Y 18),(yc (S [32]))]),qm 17 19,qq 20 (.ext 0 (Y 17)),qq 21 (.ext 1 (Y 17)),qq 22 (.ext 2 (Y 17)),qm 6 20,qm 7 21,qm 8 22]) (Z (yr [qm 24 7,qq 25 (yl 66 [(Y 24)]),qm 23 25,qq 26 (.ext 0 (Y 23)),qq 27 (.ext 1 (Y 23)),qm 9 26,qm 10 27]) (Z (Z (yr [qm 28 8,qq 29 (.un .not (Y 28)),qm 30 29,qmf 30 31 6,qf 30 32 (yl 65 [(Y 31)]),qf 30 33 (.un .not (Y 32)),qq 34 (.pick (Y 30) (kb true) (Y 33)),qm 35 34,qmf 35 36 10,qf 35 37 (.un .not (Y 36)),qq 38 (.pick (Y 35) (kb true) (Y 37))]) (yd (Y 38) (Z (yr [qq 4 (.mv (yc (S []))),qq 5 (.mv (ki 23))]) .ret) yk)) (Z (yr [qm 40 0,qq 41 (.nck (Y 40)),qq 42 (.fad 4 (Y 41)),qq 43 (.ld none (Y 42)),qm 44 6,qq 45 (.raw (.lookup 52 (Y 43) (Y 44) true) 34),qm 39 45,qq 46 (.ext 0 (Y 39)),qq 47 (.ext 1 (Y 39)),qm 11 46,qm 10 47]) (Z (Z (yr [qm 48 10,qq 49 (.un .not (Y 48))]) (yd (Y 49) (Z (yr [qq 4 (.mv (yc (S []))),qq 5 (.mv (ki 25))]) .ret) yk)) (Z (yr [qm 51 0,qq 52 (.nck (Y 51)),qq 53 (.fad 0 (Y 52)),qq 54 (.ld (.some 3) (Y 53)),qm 55 11,qq 56 (yl 67 [(Y 54),(Y 55)]),qm 50 56,qq 57 (.ext 0 (Y 50)),qq 58 (.ext 1 (Y 50)),qq 13 (.alc 77 [(.int .i64 0),(.int .i64 0)]),qm 12 57,qn (.st 2 (Y 13) (Y 58))]) (Z (Z (yr [qm 59 12,qq 60 (.raw (.binOp .eql 101 (Y 59) (yc (.pointer none)) 101) 4)]) (yd (Y 60) (Z (.drg [qq 61 (.fad 0 (Y 13)),qq 62 (.ld none (Y 61)),qq 4 (.mv (yc (S []))),qm 5 62] none) .ret) yk)) (Z (yr [qm 64 12,qm 65 9,qq 66 (yl 68 [(Y 64),(Y 65)]),qm 63 66,qq 67 (.ext 0 (Y 63)),qq 68 (.ext 1 (Y 63)),qm 14 67,qm 15 68]) (Z (Z (yr [qm 69 15,qq 70 (yb .neq (Y 69) (ki 0))]) (yd (Y 70) (Z (yr [qm 71 15,qq 4 (.mv (yc (S []))),qm 5 71]) .ret) yk)) (Z (yr [qm 73 0,qq 74 (.nck (Y 73)),qq 75 (.fad 0 (Y 74)),qq 76 (.ld (.some 3) (Y 75)),qm 77 14,qq 78 (yl 69 [(Y 76),(Y 77),(kb false)]),qm 72 78,qq 79 (.ext 0 (Y 72)),qq 80 (.ext 1 (Y 72)),qm 16 79,qm 15 80]) (Z (Z (yr [qm 81 15,qq 82 (yb .neq (Y 81) (ki 0))]) (yd (Y 82) (Z (yr [qm 83 15,qq 4 (.mv (yc (S []))),qm 5 83]) .ret) yk)) (Z (yr [qm 84 16,qm 85 0,qq 86 (.nck (Y 85)),qq 87 (.fad 0 (Y 86)),qq 88 (.ld (.some 3) (Y 87)),qq 89 (yl 71 [(Y 88)]),qq 90 (yl 70 [(Y 84),(Y 89)]),qq 91 (yl 15 [(Y 90)]),qm 4 91,qq 5 (.mv (ki 0))]) .ret)))))))))))))
set_option maxHeartbeats 1000000 in
theorem get_spec1 (rest nm dg t:Str) (n:Nat) (hc:cutT 32 rest=(nm,dg,true)) (hl:rest.length≤1000000) (hn:nmM nm=true) (hu:nuM dg=some n) (hm:m nm=some t) (htl:t.length≤900000) (hd:byD d) (hr:rightD d=true) {R:Rs} (hR:parM d wideL t=R) (hi:n < R.rs.length) {x:List Str} (hx:(R.rs.map Prod.fst).getD n []=x) (hx0:mayR x=0) (hxl:x.length≤10000) (hxb:∀ f∈x,f.length≤1000000) (hv:ErrV w0) (hS:Sep w0 w (boxC g 55 [U d.dl,U d.q,I d.e,lv,.map (some r)] :: mapC r S m :: M)) :
 Ret Tryz.prog 48 #[(.pointer (some ⟨g,0,none⟩)),S rest] w fun res w'=>res=.tuple #[S (sqM (lineF d x.length false 0 x)),I 0]∧Sep w0 w' (boxC g 55 [U d.dl,U d.q,I d.e,lv,.map (some r)] :: mapC r S m :: M):=by
 refine En 92 c48 Tryz.func48 ?_
 have hcl:=cutT_len 32 rest
 have hcu:=fun w=>cut_spec rest 32 w zo
 rw [hc] at hcu hcl
 dsimp only at hcu hcl
 have hnu:=fun w hv=>number_spec dg w zo hv
 rw [hu] at hnu
 simp only [Option.getD_some,Option.isSome_some] at hnu
 have hsl:=spM_len d t
 rw [hR] at hsl
 have hp:=fun w=>inew_spec1 d t w zo hr hR (rfl:spM d t=spM d t)
 generalize spM d t=SP at *
 have hlv:∀ {v:Value} {w:World},Rd w eS v x→Pu Tryz.prog 69 #[.agg #[U d.dl,U d.q,I d.e],v,.bool false] w (.tuple #[S (lineM d x false),I 0]):=fun {v w} h=>by
  have:=line_spec d hd false w h hxb hxl
  rwa [show lineV d x false=.tuple #[S (lineM d x false),I 0] by unfold lineV;rw [if_neg (by rw [hr];decide),if_pos hx0]] at this
 have hel:(endM d).length≤2:=by unfold endM;split<;>simp
 have hll:=lineF_len d x.length false 1000000 x 0 hxb
 have hll2:(lineF d x.length false 0 x).length≤20000030000:=Nat.le_trans hll (Nat.le_trans (Nat.mul_le_mul_right _ hxl) zd)
 have hq:=fun w=>tsuf_spec (s:=lineM d x false) (a:=lineF d x.length false 0 x) (e:=endM d) w (by unfold lineM;rw [List.length_append]) (by unfold lineM;rw [List.length_append];omega) (by unfold lineM;simp) (by unfold lineM;simp)
 (have fct:=(aI @hn @hm);repeat' (first|(refine gO ?_;intro K hK)|(refine kP ?_;clear hK K)|(intro wd hxd;have hS:=Sep.xx hxd)|refine sA ?_|(refine bM ?_ ?_<;>intro hb hc<;>first|exact zxf|(simp only [hb];clear hb))|(refine zalc ?_;intro gb wb hS)|((with_reducible refine gSt ?_);refine zs2 ?_;intro wb hS)|(refine zcp 44 (hcu _) ?_;intro wb hS)|(refine zcp 66 (hnu _ (hv.ext (Sep.xt ‹_›))) ?_;intro wb hS)|(refine zcp 65 (lnamed_spec _ _ zo) ?_;intro wb hS)|(refine zlk ?_)|(refine zco 67 (hp _) ?_;rintro vb wb ⟨g2,v2,vs2,sv2,rfl,hvl,hS2⟩;have hS:=hS2.ap;simp only [apps] at hS)|(refine zn3 ?_)|(refine zn4 ?_)|(refine zco 68 (iget_spec1 (Sep.blk hS zr) (Sep.rd hS zr) (Sep.rd hS zr) n zo zo (hx ▸ Sep.frzAt hS zr (by rw [List.length_map];exact hi)) zo) ?_;rintro vb wb ⟨rv,rfl,hS2⟩;have hS:=hS2.ap;simp only [apps] at hS)|(refine zcp 69 (hlv (Sep.rd hS zr)) ?_;intro wb hS)|(refine zcp 71 (dend_spec d hr _) ?_;intro wb hS)|(refine zcp 70 (hq _) ?_;intro wb hS)|(refine zcp 15 (spellL_spec _ _ zo) ?_;intro wb hS)|(refine G.cn ?_ ?_<;>intro hc<;>try exact zxf)))<;>(try clear fct)
 all_goals
  refine rM ?_
  (first|exact (Sep.sub hS zw)|exact ⟨rfl,(Sep.sub hS zw)⟩)
end
def recsM (d:Dl) (t:Str):List (List Str):=(parM d wideL t).rs.map Prod.fst
theorem recs_len (d:Dl) (t:Str):(recsM d t).length=(parM d wideL t).rs.length:=List.length_map _
def getK (d:Dl) (m:Str→Option Str) (rest:Str):Str×Int :=
 if (cutT 32 rest).2.2=true∧nmM (cutT 32 rest).1=true then
  match nuM (cutT 32 rest).2.1 with
  | none=>([],23)
  | some n=>match m (cutT 32 rest).1 with
    | none=>([],25)
    | some t=>if n < (recsM d t).length then (if mayR ((recsM d t).getD n [])=0 then (sqM (lineF d ((recsM d t).getD n []).length false 0 ((recsM d t).getD n [])),0) else ([],mayR ((recsM d t).getD n []))) else ([],25)
 else ([],23)
section
variable {g r:Nat} {d:Dl} {lv:Value} {m:Str→Option Str} {M:List Chk} {w w0:World}
set_option maxHeartbeats 2000000 in
theorem vget_spec (rest:Str) (hl:rest.length≤1000000) (hmb:∀ k t,m k=some t→t.length≤4000) (hd:byD d) (hr:rightD d=true) (hv:ErrV w0) (hS:Sep w0 w (boxC g 55 [U d.dl,U d.q,I d.e,lv,.map (some r)] :: mapC r S m :: M)) :
 Ret Tryz.prog 48 #[(.pointer (some ⟨g,0,none⟩)),S rest] w fun res w'=>res=.tuple #[S (getK d m rest).1,I (getK d m rest).2]∧Sep w0 w' (boxC g 55 [U d.dl,U d.q,I d.e,lv,.map (some r)] :: mapC r S m :: M):=by
 have hcl:=cutT_len 32 rest
 have hcu:=fun w=>cut_spec rest 32 w zo
 unfold getK
 generalize hc:cutT 32 rest=c at *
 obtain ⟨nm,dg,pt⟩:=c
 dsimp only at hcl hcu ⊢
 have hnu:=fun w hv=>number_spec dg w zo hv
 by_cases h1:pt=true∧nmM nm=true
 rotate_left
 ·rw [if_neg h1]
  refine En 92 c48 Tryz.func48 ?_
  cases pt with
  | false =>
    repeat' (first|(refine gO ?_;intro K hK)|(refine kP ?_;clear hK K)|(intro wd hxd;have hS:=Sep.xx hxd)|refine sA ?_|(refine bM ?_ ?_<;>intro hb hc<;>first|exact zxf|(simp only [hb];clear hb))|(refine zalc ?_;intro gb wb hS)|((with_reducible refine gSt ?_);refine zs2 ?_;intro wb hS)|(refine zcp 44 (hcu _) ?_;intro wb hS)|(refine zcp 66 (hnu _ (hv.ext (Sep.xt ‹_›))) ?_;intro wb hS)|(refine zcp 65 (lnamed_spec _ _ zo) ?_;intro wb hS)|(refine G.cn ?_ ?_<;>intro hc<;>try exact zxf))
    all_goals
     refine rM ?_
     (first|exact (Sep.sub hS zw)|exact ⟨rfl,(Sep.sub hS zw)⟩)
  | true =>
    have h2:nmM nm=false:=by cases h:nmM nm;rfl;exact absurd ⟨rfl,h⟩ h1
    (have fct:=@h2;repeat' (first|(refine gO ?_;intro K hK)|(refine kP ?_;clear hK K)|(intro wd hxd;have hS:=Sep.xx hxd)|refine sA ?_|(refine bM ?_ ?_<;>intro hb hc<;>first|exact zxf|(simp only [hb];clear hb))|(refine zalc ?_;intro gb wb hS)|((with_reducible refine gSt ?_);refine zs2 ?_;intro wb hS)|(refine zcp 44 (hcu _) ?_;intro wb hS)|(refine zcp 66 (hnu _ (hv.ext (Sep.xt ‹_›))) ?_;intro wb hS)|(refine zcp 65 (lnamed_spec _ _ zo) ?_;intro wb hS)|(refine G.cn ?_ ?_<;>intro hc<;>try exact zxf)))<;>(try clear fct)
    all_goals
     refine rM ?_
     (first|exact (Sep.sub hS zw)|exact ⟨rfl,(Sep.sub hS zw)⟩)
 rw [if_pos h1]
 obtain ⟨rfl,hn⟩:=h1
 cases hu:nuM dg with
 | none =>
   rw [hu] at hnu
   simp only [Option.getD_none,Option.isSome_none] at hnu
   refine En 92 c48 Tryz.func48 ?_
   (have fct:=@hn;repeat' (first|(refine gO ?_;intro K hK)|(refine kP ?_;clear hK K)|(intro wd hxd;have hS:=Sep.xx hxd)|refine sA ?_|(refine bM ?_ ?_<;>intro hb hc<;>first|exact zxf|(simp only [hb];clear hb))|(refine zalc ?_;intro gb wb hS)|((with_reducible refine gSt ?_);refine zs2 ?_;intro wb hS)|(refine zcp 44 (hcu _) ?_;intro wb hS)|(refine zcp 66 (hnu _ (hv.ext (Sep.xt ‹_›))) ?_;intro wb hS)|(refine zcp 65 (lnamed_spec _ _ zo) ?_;intro wb hS)|(refine G.cn ?_ ?_<;>intro hc<;>try exact zxf)))<;>(try clear fct)
   all_goals
    refine rM ?_
    (first|exact (Sep.sub hS zw)|exact ⟨rfl,(Sep.sub hS zw)⟩)
 | some n =>
   rw [hu] at hnu
   simp only [Option.getD_some,Option.isSome_some] at hnu
   dsimp only
   cases hm:m nm with
   | none =>
     refine En 92 c48 Tryz.func48 ?_
     (have fct:=(aI @hn @hm);repeat' (first|(refine gO ?_;intro K hK)|(refine kP ?_;clear hK K)|(intro wd hxd;have hS:=Sep.xx hxd)|refine sA ?_|(refine bM ?_ ?_<;>intro hb hc<;>first|exact zxf|(simp only [hb];clear hb))|(refine zalc ?_;intro gb wb hS)|((with_reducible refine gSt ?_);refine zs2 ?_;intro wb hS)|(refine zcp 44 (hcu _) ?_;intro wb hS)|(refine zcp 66 (hnu _ (hv.ext (Sep.xt ‹_›))) ?_;intro wb hS)|(refine zcp 65 (lnamed_spec _ _ zo) ?_;intro wb hS)|(refine zlk ?_)|(refine G.cn ?_ ?_<;>intro hc<;>try exact zxf)))<;>(try clear fct)
     all_goals
      refine rM ?_
      (first|exact (Sep.sub hS zw)|exact ⟨rfl,(Sep.sub hS zw)⟩)
   | some t =>
     have htl:=hmb _ _ hm
     dsimp only
     have hsl:=spM_len d t
     have hrl:=recs_len d t
     by_cases hi:n < (recsM d t).length
     ·rw [if_pos hi]
      obtain ⟨hxl,hxb⟩:=parM_mb d wideL t _ (getD_mem (recsM d t) n zo)
      by_cases h0:mayR ((recsM d t).getD n [])=0
      ·rw [if_pos h0]
       exact get_spec1 rest nm dg t n hc hl hn hu hm zo hd hr rfl zo rfl h0 (by show ((recsM d t).getD n default).length≤10000;omega) (fun f hf=>by have:=hxb f hf;omega) hv hS
      ·rw [if_neg h0]
       have hp:=fun w=>inew_spec1 d t w zo hr rfl (rfl:spM d t=spM d t)
       have hx:(recsM d t).getD n []=(recsM d t).getD n default:=rfl
       rw [hx] at h0 ⊢
       generalize hxx:(recsM d t).getD n default=x at *
       have hx2:((parM d wideL t).rs.map Prod.fst).getD n []=x:=hxx
       have hlv:∀ {v:Value} {w:World},Rd w eS v x→Pu Tryz.prog 69 #[.agg #[U d.dl,U d.q,I d.e],v,.bool false] w (.tuple #[S [],I (mayR x)]):=fun {v w} h=>by
        have:=line_spec d hd false w h (fun f hf=>by have:=hxb f hf;omega) zo
        rwa [show lineV d x false=.tuple #[S [],I (mayR x)] by unfold lineV;rw [if_neg (by rw [hr];decide),if_neg h0]] at this
       have hmk:=mayR_kb x
       generalize mayR x=e at *
       refine En 92 c48 Tryz.func48 ?_
       (have fct:=(aI @hn @hm);repeat' (first|(refine gO ?_;intro K hK)|(refine kP ?_;clear hK K)|(intro wd hxd;have hS:=Sep.xx hxd)|refine sA ?_|(refine bM ?_ ?_<;>intro hb hc<;>first|exact zxf|(simp only [hb];clear hb))|(refine zalc ?_;intro gb wb hS)|((with_reducible refine gSt ?_);refine zs2 ?_;intro wb hS)|(refine zcp 44 (hcu _) ?_;intro wb hS)|(refine zcp 66 (hnu _ (hv.ext (Sep.xt ‹_›))) ?_;intro wb hS)|(refine zcp 65 (lnamed_spec _ _ zo) ?_;intro wb hS)|(refine zlk ?_)|(refine zco 67 (hp _) ?_;rintro vb wb ⟨g2,v2,vs2,sv2,rfl,hvl,hS2⟩;have hS:=hS2.ap;simp only [apps] at hS)|(refine zn3 ?_)|(refine zn4 ?_)|(refine zco 68 (iget_spec1 (Sep.blk hS zr) (Sep.rd hS zr) (Sep.rd hS zr) n zo zo (hx2 ▸ Sep.frzAt hS zr (by rw [List.length_map];omega)) zo) ?_;rintro vb wb ⟨rv,rfl,hS2⟩;have hS:=hS2.ap;simp only [apps] at hS)|(refine zcp 69 (hlv (Sep.rd hS zr)) ?_;intro wb hS)|(refine G.cn ?_ ?_<;>intro hc<;>try exact zxf)))<;>(try clear fct)
       all_goals
        refine rM ?_
        (first|exact (Sep.sub hS zw)|exact ⟨rfl,(Sep.sub hS zw)⟩)
     ·rw [if_neg hi]
      have hp:=fun w=>inew_spec1 d t w zo hr rfl (rfl:spM d t=spM d t)
      refine En 92 c48 Tryz.func48 ?_
      (have fct:=(aI @hn @hm);repeat' (first|(refine gO ?_;intro K hK)|(refine kP ?_;clear hK K)|(intro wd hxd;have hS:=Sep.xx hxd)|refine sA ?_|(refine bM ?_ ?_<;>intro hb hc<;>first|exact zxf|(simp only [hb];clear hb))|(refine zalc ?_;intro gb wb hS)|((with_reducible refine gSt ?_);refine zs2 ?_;intro wb hS)|(refine zcp 44 (hcu _) ?_;intro wb hS)|(refine zcp 66 (hnu _ (hv.ext (Sep.xt ‹_›))) ?_;intro wb hS)|(refine zcp 65 (lnamed_spec _ _ zo) ?_;intro wb hS)|(refine zlk ?_)|(refine zco 67 (hp _) ?_;rintro vb wb ⟨g2,v2,vs2,sv2,rfl,hvl,hS2⟩;have hS:=hS2.ap;simp only [apps] at hS)|(refine zn3 ?_)|(refine zn4 ?_)|(refine zcp 68 (iget_spec0 (Sep.blk hS zr) (Sep.rd hS zr) n zo) ?_;intro wb hS)|(refine G.cn ?_ ?_<;>intro hc<;>try exact zxf)))<;>(try clear fct)
      all_goals
       refine rM ?_
       (first|exact (Sep.sub hS zw)|exact ⟨rfl,(Sep.sub hS zw)⟩)
end
def setT (d:Dl) (t:Str) (n:Nat) (x:List Str):Str:=t.take ((spM d t).getD n default).1++lineF d x.length (decide (n=0)) 0 x++t.drop ((spM d t).getD n default).2
def setF (d:Dl) (t:Str) (n:Nat) (rec:Str):Int :=
 if ¬ n < (recsM d t).length then 25 else if (parM d wideL t).k≠0∨(parM d wideL rec).k≠0∨(recsM d rec).length≠1 then 23 else mayR ((recsM d rec).getD 0 default)
def setK (d:Dl) (m:Str→Option Str) (rest:Str):Except Int (Str→Option Str) :=
 if (cutT 32 (cutT 32 rest).2.1).2.2=true∧nmM (cutT 32 rest).1=true then
  match nuM (cutT 32 (cutT 32 rest).2.1).1,unL (cutT 32 (cutT 32 rest).2.1).2.1 with
  | some n,some rec=>match m (cutT 32 rest).1 with
    | none=>.error 25
    | some t=>if setF d t n rec=0 then .ok (mput m (cutT 32 rest).1 (setT d t n ((recsM d rec).getD 0 default))) else .error (setF d t n rec)
  | _,_=>.error 23
 else .error 23
section
variable {g r:Nat} {d:Dl} {lv:Value} {m:Str→Option Str} {M:List Chk} {w w0:World}
def c49:MC:=(Z (yr [qq 4 (.mv (yc (S []))),qq 5 (.mv (ki 0))]) (Z (yr [qm 26 1,qq 27 (yl 44 [(Y 26),(yc (S [32]))]),qm 25 27,qq 28 (.ext 0 (Y 25)),qq 29 (.ext 1 (Y 25)),qq 30 (.ext 2 (Y 25)),qm 6 28,qm 1 29,qm 7 30]) (Z (yr [qm 32 1,qq 33 (yl 44 [(Y 32),(yc (S [32]))]),qm 31 33,qq 34 (.ext 0 (Y 31)),qq 35 (.ext 1 (Y 31)),qq 36 (.ext 2 (Y 31)),qm 8 34,qm 9 35,qm 10 36]) (Z (yr [qm 38 8,qq 39 (yl 66 [(Y 38)]),qm 37 39,qq 40 (.ext 0 (Y 37)),qq 41 (.ext 1 (Y 37)),qm 11 40,qm 12 41]) (Z (yr [qm 43 9,qq 44 (yl 16 [(Y 43)]),qm 42 44,qq 45 (.ext 0 (Y 42)),qq 46 (.ext 1 (Y 42)),qm 13 45,qm 14 46]) (Z (Z (yr [qm 47 10,qq 48 (.un .not (Y 47)),qm 49 48,qmf 49 50 6,qf 49 51 (yl 65 [(Y 50)]),qf 49 52 (.un .not (Y 51)),qq 53 (.pick (Y 49) (kb true) (Y 52)),qm 54 53,qmf 54 55 12,qf 54 56 (.un .not (Y 55)),qq 57 (.pick (Y 54) (kb true) (Y 56)),qm 58 57,qmf 58 59 14,qf 58 60 (.un .not (Y 59)),qq 61 (.pick (Y 58) (kb true) (Y 60))]) (yd (Y 61) (Z (yr [qq 4 (.mv (yc (S []))),qq 5 (.mv (ki 23))]) .ret) yk)) (Z (yr [qm 63 0,qq 64 (.nck (Y 63)),qq 65 (.fad 4 (Y 64)),qq 66 (.ld none (Y 65)),qm 67 6,qq 68 (.raw (.lookup 52 (Y 66) (Y 67) true) 34),qm 62 68,qq 69 (.ext 0 (Y 62)),qq 70 (.ext 1 (Y 62)),qm 15 69,qm 16 70]) (Z (Z (yr [qm 71 16,qq 72 (.un .not (Y 71))]) (yd (Y 72) (Z (yr [qq 4 (.mv (yc (S []))),qq 5 (.mv (ki 25))]) .ret) yk)) (Z (yr [qm 74 0,qq 75 (.nck (Y 74)),qq 76 (.fad 0 (Y 75)),qq 77 (.ld (.some 3) (Y 76)),qm 78 15,qq 79 (yl 67 [(Y 77),(Y 78)]),qm 73 79,qq 80 (.ext 0 (Y 73)),qq 81 (.ext 1 (Y 73)),qq 18 (.alc 77 [(.int .i64 0),(.int .i64 0)]),qm 17 80,qn (.st 2 (Y 18) (Y 81))]) (Z (Z (yr [qm 82 17,qq 83 (.raw (.binOp .eql 101 (Y 82) (yc (.pointer none)) 101) 4)]) (yd (Y 83) (Z (.drg [qq 84 (.fad 0 (Y 18)),qq 85 (.ld none (Y 84)),qq 4 (.mv (yc (S []))),qm 5 85] none) .ret) yk)) (Z (Z (yr [qm 87 17,qm 88 11,qq 89 (yl 68 [(Y 87),(Y 88)]),qm 86 89,qq 90 (.ext 0 (Y 86)),qq 91 (.ext 1 (Y 86)),qm 19 90,qm 20 91]) (Z (yr [qm 92 20,qq 93 (yb .neq (Y 92) (ki 0))]) (yd (Y 93) (Z (yr [qm 94 20,qq 4 (.mv (yc (S []))),qm 5 94]) .ret) yk))) (Z (.drg [qm 96 0,qq 97 (.nck (Y 96)),qq 98 (.fad 0 (Y 97)),qq 99 (.ld (.some 3) (Y 98)),qq 100 (yl 72 []),qm 101 13,qq 102 (yl 38 [(Y 99),(Y 100),(Y 101)]),qm 95 102,qq 103 (.ext 0 (Y 95)),qq 104 (.ext 1 (Y 95)),qq 22 (.alc 77 [(.int .i64 0),(.int .i64 0)]),qm 21 103,qn (.st 2 (Y 22) (Y 104))] (.some (.br [qm 96 0,qq 97 (.nck (Y 96)),qq 98 (.fad 0 (Y 97)),qm 101 13] (.br [qq 99 (.ld (.some 3) (Y 98))] (.br [qq 100 (yl 72 [])] (.leaf [qq 102 (yl 38 [(Y 99),(Y 100),(Y 101)]),qm 95 102,qq 103 (.ext 0 (Y 95)),qq 104 (.ext 1 (Y 95)),qq 22 (.alc 77 [(.int .i64 0),(.int .i64 0)]),qm 21 103,qn (.st 2 (Y 22) (Y 104))]) (.leaf [qq 22 (.alc 77 [(.int .i64 0),(.int .i64 0)]),qq 102 (yl 38 [(Y 99),(Y 100),(Y 101)]),qm 95 102,qq 103 (.ext 0 (Y 95)),qq 104 (.ext 1 (Y 95)),qm 21 103,qn (.st 2 (Y 22) (Y 104))])) (.leaf [qq 22 (.alc 77 [(.int .i64 0),(.int .i64 0)]),qq 100 (yl 72 []),qq 102 (yl 38 [(Y 99),(Y 100),(Y 101)]),qm 95 102,qq 103 (.ext 0 (Y 95)),qq 104 (.ext 1 (Y 95)),qm 21 103,qn (.st 2 (Y 22) (Y 104))])) (.br [] (.br [qq 100 (yl 72 [])] (.br [qq 99 (.ld (.some 3) (Y 98))] (.leaf [qq 102 (yl 38 [(Y 99),(Y 100),(Y 101)]),qm 95 102,qq 103 (.ext 0 (Y 95)),qq 104 (.ext 1 (Y 95)),qq 22 (.alc 77 [(.int .i64 0),(.int .i64 0)]),qm 21 103,qn (.st 2 (Y 22) (Y 104))]) (.leaf [qq 22 (.alc 77 [(.int .i64 0),(.int .i64 0)]),qq 102 (yl 38 [(Y 99),(Y 100),(Y 101)]),qm 95 102,qq 103 (.ext 0 (Y 95)),qq 104 (.ext 1 (Y 95)),qm 21 103,qn (.st 2 (Y 22) (Y 104))])) (.leaf [qq 22 (.alc 77 [(.int .i64 0),(.int .i64 0)]),qq 99 (.ld (.some 3) (Y 98)),qq 102 (yl 38 [(Y 99),(Y 100),(Y 101)]),qm 95 102,qq 103 (.ext 0 (Y 95)),qq 104 (.ext 1 (Y 95)),qm 21 103,qn (.st 2 (Y 22) (Y 104))])) (.br [qq 22 (.alc 77 [(.int .i64 0),(.int .i64 0)])] (.leaf [qq 99 (.ld (.some 3) (Y 98)),qq 100 (yl 72 []),qq 102 (yl 38 [(Y 99),(Y 100),(Y 101)]),qm 95 102,qq 103 (.ext 0 (Y 95)),qq 104 (.ext 1 (Y 95)),qm 21 103,qn (.st 2 (Y 22) (Y 104))]) (.leaf [qq 100 (yl 72 []),qq 99 (.ld (.some 3) (Y 98)),qq 102 (yl 38 [(Y 99),(Y 100),(Y 101)]),qm 95 102,qq 103 (.ext 0 (Y 95)),qq 104 (.ext 1 (Y 95)),qm 21 103,qn (.st 2 (Y 22) (Y 104))])))))) (Z (Z (yr [qq 105 (.fad 0 (Y 18)),qq 106 (.ld none (Y 105)),qq 107 (yb .neq (Y 106) (ki 0)),qm 108 107,qf 108 109 (.fad 0 (Y 22)),qf 108 110 (.ld none (Y 109)),qf 108 111 (yb .neq (Y 110) (ki 0)),qq 112 (.pick (Y 108) (kb true) (Y 111)),qm 113 112,qmf 113 114 21,qf 113 115 (.len (Y 114)),qf 113 116 (yb .neq (Y 115) (ki 1)),qq 117 (.pick (Y 113) (kb true) (Y 116))]) (yd (Y 117) (Z (yr [qq 4 (.mv (yc (S []))),qq 5 (.mv (ki 23))]) .ret) yk)) (Z (yr [qm 119 17,qm 120 11,qm 121 21,qq 122 (.adr 1 (Y 121) (ki 0)),qq 123 (.ld none (Y 122)),qq 124 (yl 73 [(Y 119),(Y 120),(Y 123)]),qm 118 124,qq 125 (.ext 0 (Y 118)),qq 126 (.ext 1 (Y 118)),qm 23 125,qm 24 126]) (Z (Z (yr [qm 127 24,qq 128 (yb .neq (Y 127) (ki 0))]) (yd (Y 128) (Z (yr [qm 129 24,qq 4 (.mv (yc (S []))),qm 5 129]) .ret) yk)) (Z (.drg [qm 130 0,qq 131 (.nck (Y 130)),qq 132 (.fad 4 (Y 131)),qq 133 (.ld none (Y 132)),qm 134 6,qm 135 23,qq 136 (yl 74 [(Y 135)]),qn (.raw (.mapUpdate 52 (Y 133) (Y 134) (Y 136)) 0)] (.some (.br [qm 130 0,qq 131 (.nck (Y 130)),qq 132 (.fad 4 (Y 131)),qm 134 6,qm 135 23] (.leaf [qq 133 (.ld none (Y 132)),qq 136 (yl 74 [(Y 135)]),qn (.raw (.mapUpdate 52 (Y 133) (Y 134) (Y 136)) 0)]) (.leaf [qq 136 (yl 74 [(Y 135)]),qq 133 (.ld none (Y 132)),qn (.raw (.mapUpdate 52 (Y 133) (Y 134) (Y 136)) 0)])))) (Z (yr [qq 4 (.mv (yc (S [111,107]))),qq 5 (.mv (ki 0))]) .ret)))))))))))))))))
theorem vset_form (rest nm re2 dg sp:Str) (p1 pt:Bool) (hc:cutT 32 rest=(nm,re2,p1)) (hc2:cutT 32 re2=(dg,sp,pt)) (hl:rest.length≤1000000) (h:¬ (pt=true∧nmM nm=true∧(nuM dg).isSome=true∧(unL sp).isSome=true)) (hv:ErrV w0) (hS:Sep w0 w (boxC g 55 [U d.dl,U d.q,I d.e,lv,.map (some r)] :: mapC r S m :: M)) :
 Ret Tryz.prog 49 #[(.pointer (some ⟨g,0,none⟩)),S rest] w fun res w'=>res=.tuple #[S [],I 23]∧Sep w0 w' (boxC g 55 [U d.dl,U d.q,I d.e,lv,.map (some r)] :: mapC r S m :: M):=by
 refine En 137 c49 Tryz.func49 ?_
 have hcl:=cutT_len 32 rest
 have hcl2:=cutT_len 32 re2
 have hcu:=fun w=>cut_spec rest 32 w zo
 have hcu2:=fun w=>cut_spec re2 32 w (by rw [hc] at hcl;dsimp only at hcl;omega)
 rw [hc] at hcu hcl
 rw [hc2] at hcu2 hcl2
 dsimp only at hcu hcu2 hcl hcl2
 have hnu:=fun w hv=>number_spec dg w zo hv
 have hun:=fun w=>unspellL_spec sp w zo
 generalize nuM dg=o1 at *
 generalize unL sp=o2 at *
 cases pt with
 | false =>
   repeat' (first|(refine gO ?_;intro K hK)|(refine kP ?_;clear hK K)|(refine hK _ _ ?_ ?_<;>clear hK K)|(intro wd hxd;have hS:=Sep.xx hxd)|refine sA ?_|(refine bM ?_ ?_<;>intro hb hc<;>first|exact zxf|(simp only [hb];clear hb))|(refine zalc ?_;intro gb wb hS)|((with_reducible refine gSt ?_);refine zs2 ?_;intro wb hS)|((with_reducible (show CallK _ 44 [S rest,S [32]] _ _ _ _));refine zcp 44 (hcu _) ?_;intro wb hS)|((with_reducible (show CallK _ 44 [S re2,S [32]] _ _ _ _));refine zcp 44 (hcu2 _) ?_;intro wb hS)|(refine zcp 66 (hnu _ (hv.ext (Sep.xt ‹_›))) ?_;intro wb hS)|(refine zcp 16 (hun _) ?_;intro wb hS)|(refine zcp 65 (lnamed_spec _ _ zo) ?_;intro wb hS)|(refine G.cn ?_ ?_<;>intro hc<;>try exact zxf))
   all_goals
    refine rM ?_
    (first|exact (Sep.sub hS zw)|exact ⟨rfl,(Sep.sub hS zw)⟩)
 | true =>
   cases h2:nmM nm with
   | false =>
     (have fct:=@h2;repeat' (first|(refine gO ?_;intro K hK)|(refine kP ?_;clear hK K)|(refine hK _ _ ?_ ?_<;>clear hK K)|(intro wd hxd;have hS:=Sep.xx hxd)|refine sA ?_|(refine bM ?_ ?_<;>intro hb hc<;>first|exact zxf|(simp only [hb];clear hb))|(refine zalc ?_;intro gb wb hS)|((with_reducible refine gSt ?_);refine zs2 ?_;intro wb hS)|((with_reducible (show CallK _ 44 [S rest,S [32]] _ _ _ _));refine zcp 44 (hcu _) ?_;intro wb hS)|((with_reducible (show CallK _ 44 [S re2,S [32]] _ _ _ _));refine zcp 44 (hcu2 _) ?_;intro wb hS)|(refine zcp 66 (hnu _ (hv.ext (Sep.xt ‹_›))) ?_;intro wb hS)|(refine zcp 16 (hun _) ?_;intro wb hS)|(refine zcp 65 (lnamed_spec _ _ zo) ?_;intro wb hS)|(refine G.cn ?_ ?_<;>intro hc<;>try exact zxf)))<;>(try clear fct)
     all_goals
      refine rM ?_
      (first|exact (Sep.sub hS zw)|exact ⟨rfl,(Sep.sub hS zw)⟩)
   | true =>
     cases o1 with
     | none =>
       simp only [Option.getD_none,Option.isSome_none] at hnu
       (have fct:=@h2;repeat' (first|(refine gO ?_;intro K hK)|(refine kP ?_;clear hK K)|(refine hK _ _ ?_ ?_<;>clear hK K)|(intro wd hxd;have hS:=Sep.xx hxd)|refine sA ?_|(refine bM ?_ ?_<;>intro hb hc<;>first|exact zxf|(simp only [hb];clear hb))|(refine zalc ?_;intro gb wb hS)|((with_reducible refine gSt ?_);refine zs2 ?_;intro wb hS)|((with_reducible (show CallK _ 44 [S rest,S [32]] _ _ _ _));refine zcp 44 (hcu _) ?_;intro wb hS)|((with_reducible (show CallK _ 44 [S re2,S [32]] _ _ _ _));refine zcp 44 (hcu2 _) ?_;intro wb hS)|(refine zcp 66 (hnu _ (hv.ext (Sep.xt ‹_›))) ?_;intro wb hS)|(refine zcp 16 (hun _) ?_;intro wb hS)|(refine zcp 65 (lnamed_spec _ _ zo) ?_;intro wb hS)|(refine G.cn ?_ ?_<;>intro hc<;>try exact zxf)))<;>(try clear fct)
       all_goals
        refine rM ?_
        (first|exact (Sep.sub hS zw)|exact ⟨rfl,(Sep.sub hS zw)⟩)
     | some n =>
       simp only [Option.getD_some,Option.isSome_some] at hnu
       cases o2 with
       | none =>
         simp only [Option.getD_none,Option.isSome_none] at hun
         (have fct:=@h2;repeat' (first|(refine gO ?_;intro K hK)|(refine kP ?_;clear hK K)|(refine hK _ _ ?_ ?_<;>clear hK K)|(intro wd hxd;have hS:=Sep.xx hxd)|refine sA ?_|(refine bM ?_ ?_<;>intro hb hc<;>first|exact zxf|(simp only [hb];clear hb))|(refine zalc ?_;intro gb wb hS)|((with_reducible refine gSt ?_);refine zs2 ?_;intro wb hS)|((with_reducible (show CallK _ 44 [S rest,S [32]] _ _ _ _));refine zcp 44 (hcu _) ?_;intro wb hS)|((with_reducible (show CallK _ 44 [S re2,S [32]] _ _ _ _));refine zcp 44 (hcu2 _) ?_;intro wb hS)|(refine zcp 66 (hnu _ (hv.ext (Sep.xt ‹_›))) ?_;intro wb hS)|(refine zcp 16 (hun _) ?_;intro wb hS)|(refine zcp 65 (lnamed_spec _ _ zo) ?_;intro wb hS)|(refine G.cn ?_ ?_<;>intro hc<;>try exact zxf)))<;>(try clear fct)
         all_goals
          refine rM ?_
          (first|exact (Sep.sub hS zw)|exact ⟨rfl,(Sep.sub hS zw)⟩)
       | some rec=>exact absurd ⟨rfl,h2,rfl,rfl⟩ h
theorem vset_none (rest nm re2 dg sp rec:Str) (n:Nat) (p1:Bool) (hc:cutT 32 rest=(nm,re2,p1)) (hc2:cutT 32 re2=(dg,sp,true)) (hl:rest.length≤1000000) (hn:nmM nm=true) (hnu0:nuM dg=some n) (hun0:unL sp=some rec) (hm:m nm=none) (hv:ErrV w0) (hS:Sep w0 w (boxC g 55 [U d.dl,U d.q,I d.e,lv,.map (some r)] :: mapC r S m :: M)) :
 Ret Tryz.prog 49 #[(.pointer (some ⟨g,0,none⟩)),S rest] w fun res w'=>res=.tuple #[S [],I 25]∧Sep w0 w' (boxC g 55 [U d.dl,U d.q,I d.e,lv,.map (some r)] :: mapC r S m :: M):=by
 refine En 137 c49 Tryz.func49 ?_
 have hcl:=cutT_len 32 rest
 have hcl2:=cutT_len 32 re2
 have hcu:=fun w=>cut_spec rest 32 w zo
 have hcu2:=fun w=>cut_spec re2 32 w (by rw [hc] at hcl;dsimp only at hcl;omega)
 rw [hc] at hcu hcl
 rw [hc2] at hcu2 hcl2
 dsimp only at hcu hcu2 hcl hcl2
 have hnu:=fun w hv=>number_spec dg w zo hv
 have hun:=fun w=>unspellL_spec sp w zo
 rw [hnu0] at hnu
 rw [hun0] at hun
 simp only [Option.getD_some,Option.isSome_some] at hnu hun
 (have fct:=(aI @hn @hm);repeat' (first|(refine gO ?_;intro K hK)|(refine kP ?_;clear hK K)|(refine hK _ _ ?_ ?_<;>clear hK K)|(intro wd hxd;have hS:=Sep.xx hxd)|refine sA ?_|(refine bM ?_ ?_<;>intro hb hc<;>first|exact zxf|(simp only [hb];clear hb))|(refine zalc ?_;intro gb wb hS)|((with_reducible refine gSt ?_);refine zs2 ?_;intro wb hS)|((with_reducible (show CallK _ 44 [S rest,S [32]] _ _ _ _));refine zcp 44 (hcu _) ?_;intro wb hS)|((with_reducible (show CallK _ 44 [S re2,S [32]] _ _ _ _));refine zcp 44 (hcu2 _) ?_;intro wb hS)|(refine zcp 66 (hnu _ (hv.ext (Sep.xt ‹_›))) ?_;intro wb hS)|(refine zcp 16 (hun _) ?_;intro wb hS)|(refine zcp 65 (lnamed_spec _ _ zo) ?_;intro wb hS)|(with_reducible refine aI (a:=OT _ _ _ _ _) (b:=OT _ _ _ _ _) ?_ ?_)|(refine zlk ?_)|(refine zco 67 (hp _) ?_;rintro vb wb ⟨g2,v2,vs2,sv2,rfl,hvl,hS2⟩;have hS:=hS2.ap;simp only [apps] at hS)|(refine zn3 ?_)|(refine zn4 ?_)|(refine G.cn ?_ ?_<;>intro hc<;>try exact zxf)))<;>(try clear fct)
 all_goals
  refine rM ?_
  (first|exact (Sep.sub hS zw)|exact ⟨rfl,(Sep.sub hS zw)⟩)
def vsetC (T:MC):MC:=match c49 with
 | .seq a (.seq b (.seq c (.seq d (.seq e (.seq f (.seq g (.seq h (.seq i (.seq j (.seq k (.seq l _)))))))))))=>.seq a (.seq b (.seq c (.seq d (.seq e (.seq f (.seq g (.seq h (.seq i (.seq j (.seq k (.seq l T)))))))))))
 | x=>x
def vsetT:MC:=match c49 with
 | .seq _ (.seq _ (.seq _ (.seq _ (.seq _ (.seq _ (.seq _ (.seq _ (.seq _ (.seq _ (.seq _ (.seq _ t)))))))))))=>t
 | x=>x
theorem vsetC_eq:c49=vsetC vsetT:=by rfl
set_option maxHeartbeats 2000000 in
theorem vset_tail {n':Nat} {ρ:Fr} {w':World} {nm t NT:Str} {n gb1 gb2 g2:Nat} {v2 sv2 v3:Value} {vs2 vs3:List Value} {R R2:Rs} {SP:List (Nat×Nat)} {E:Int} {x:List Str} (hd:byD d) (hr:rightD d=true) (htl:t.length≤4000) (hR2:R2.rs.length≤4000) (hvl3:vs3.length=R2.rs.length)
 (hbad:(R.k≠0∨R2.k≠0∨R2.rs.length≠1)→E=23) (hok:¬ (R.k≠0∨R2.k≠0∨R2.rs.length≠1)→(R2.rs.map Prod.fst).getD 0 []=x∧E=mayR x∧setE SP.length R.k n x=mayR x∧x.length≤10000∧(∀ f∈x,f.length≤1000000)∧(lineF d x.length (decide (n=0)) 0 x).length≤4000∧Spans SP (endR27 R t.length) t.length∧t.take (SP.getD n default).1++lineF d x.length (decide (n=0)) 0 x++t.drop (SP.getD n default).2=NT)
 (q0:ρ 0=(.pointer (some ⟨g,0,none⟩))) (q6:ρ 6=S nm) (q11:ρ 11=I n) (q17:ρ 17=.pointer (some ⟨g2,0,none⟩)) (q18:ρ 18=.pointer (some ⟨gb1,0,none⟩)) (q21:ρ 21=v3) (q22:ρ 22=.pointer (some ⟨gb2,0,none⟩)) (hS:Sep w0 w' (boxC gb2 77 [I R2.k,I R2.a] :: accC v3 22 eV vs3 :: frzC eS vs3 (R2.rs.map Prod.fst) :: boxC gb1 77 [I R.k,I R.a] :: boxC g2 156 [U d.dl,U d.q,I d.e,S t,I R.k,I R.a,v2,sv2] :: accC sv2 161 eP SP :: accC v2 22 eV vs2 :: frzC eS vs2 (R.rs.map Prod.fst) :: boxC g 55 [U d.dl,U d.q,I d.e,lv,.map (some r)] :: mapC r S m :: M)) :
 G Tryz.prog Tryz.f49 n' [.c vsetT] (fun res w'=>(E=0→res=.tuple #[S [111,107],I 0]∧Sep w0 w' (boxC g 55 [U d.dl,U d.q,I d.e,lv,.map (some r)] :: mapC r S (mput m nm NT) :: M))∧(E≠0→res=.tuple #[S [],I E]∧Sep w0 w' (boxC g 55 [U d.dl,U d.q,I d.e,lv,.map (some r)] :: mapC r S m :: M))) ρ w':=by
 unfold vsetT c49
 dsimp only
 by_cases hb:R.k≠0∨R2.k≠0∨R2.rs.length≠1
 ·have e:=hbad hb
  rw [e]
  clear hbad hok
  (have fct:=(a7 @q0 @q6 @q11 @q17 @q18 @q21 @q22);repeat' (first|(refine gO ?_;intro K hK)|(refine kP ?_;clear hK K)|(refine hK _ _ ?_ ?_<;>clear hK K)|(intro wd hxd;have hS:=Sep.xx hxd)|refine sA ?_|(refine bM ?_ ?_<;>intro hb hc<;>first|exact zxf|(simp only [hb];clear hb))|(refine zalc ?_;intro gb wb hS)|((with_reducible refine gSt ?_);refine zs2 ?_;intro wb hS)|(refine G.cn ?_ ?_<;>intro hc<;>try exact zxf)))<;>(try clear fct)
  all_goals
   (have fct:=(a7 @q0 @q6 @q11 @q17 @q18 @q21 @q22);refine rM ?_)
   exact ⟨fun h=>by simp at h,fun _=>by (first|exact (Sep.sub hS zw)|exact ⟨rfl,(Sep.sub hS zw)⟩)⟩
 obtain ⟨hxs,e,hE,hxl,hxb,hlf,hsp,rfl⟩:=hok hb
 have hk1:R.k=0:=Classical.byContradiction fun h=>hb (.inl h)
 have hk2:R2.k=0:=Classical.byContradiction fun h=>hb (.inr (.inl h))
 have h1:R2.rs.length=1:=Classical.byContradiction fun h=>hb (.inr (.inr h))
 clear hbad hok hb
 rw [e]
 by_cases h0:mayR x=0
 ·rw [h0] at hE
  have hst:=fun {w2:World} {rv:Value} hB hP hrv=>iset_spec1 (w:=w2) (rv:=rv) (g:=g2) (v:=v2) (sv:=sv2) (SP:=SP) (R:=R) (s:=t) hd hr hB hP hrv hxb hxl n hE zo hsp zo rfl rfl
  generalize parM d wideL (t.take (SP.getD n default).1++lineF d x.length (decide (n=0)) 0 x++t.drop (SP.getD n default).2)=R3 at *
  generalize spM d (t.take (SP.getD n default).1++lineF d x.length (decide (n=0)) 0 x++t.drop (SP.getD n default).2)=SP3 at *
  generalize t.take (SP.getD n default).1++lineF d x.length (decide (n=0)) 0 x++t.drop (SP.getD n default).2=NT at *
  (have fct:=(a9 @q0 @q6 @q11 @q17 @q18 @q21 @q22 @hk1 @hk2);repeat' (first|(refine gO ?_;intro K hK)|(refine kP ?_;clear hK K)|(refine hK _ _ ?_ ?_<;>clear hK K)|(intro wd hxd;have hS:=Sep.xx hxd)|refine sA ?_|(refine bM ?_ ?_<;>intro hb hc<;>first|exact zxf|(simp only [hb];clear hb))|(refine zalc ?_;intro gb wb hS)|((with_reducible refine gSt ?_);refine zs2 ?_;intro wb hS)|(with_reducible refine aI (a:=OT _ _ _ _ _) (b:=OT _ _ _ _ _) ?_ ?_)|(refine zco 73 (hst (Sep.blk hS zr) (Sep.rd hS zr) (hxs ▸ Sep.frzAt hS zr (by rw [List.length_map];omega))) ?_;rintro vb wb ⟨g4,v4,vs4,sv4,rfl,hvl4,hS2⟩;have hS:=hS2.ap;simp only [apps] at hS)|(refine zcp 74 (itext_spec (Sep.blk hS zr)) ?_;intro wb hS)|(refine zmu ?_;intro wb hS)|(refine G.cn ?_ ?_<;>intro hc<;>try exact zxf)))<;>(try clear fct)
  all_goals
   (have fct:=(a7 @q0 @q6 @q11 @q17 @q18 @q21 @q22);refine rM ?_)
   exact ⟨fun _=>by (first|exact (Sep.sub hS zw)|exact ⟨rfl,(Sep.sub hS zw)⟩),fun h=>absurd h0 h⟩
 ·have hmk:=mayR_kb x
  have hst:=fun {w2:World} {rv:Value} hB hP hrv=>iset_spec0 (w:=w2) (rv:=rv) (g:=g2) (v:=v2) (sv:=sv2) (SP:=SP) (R:=R) (s:=t) hd hr hB hP hrv hxb hxl n (by rw [hE];exact h0)
  rw [hE] at hst
  generalize mayR x=e at *
  (have fct:=(a9 @q0 @q6 @q11 @q17 @q18 @q21 @q22 @hk1 @hk2);repeat' (first|(refine gO ?_;intro K hK)|(refine kP ?_;clear hK K)|(refine hK _ _ ?_ ?_<;>clear hK K)|(intro wd hxd;have hS:=Sep.xx hxd)|refine sA ?_|(refine bM ?_ ?_<;>intro hb hc<;>first|exact zxf|(simp only [hb];clear hb))|(refine zalc ?_;intro gb wb hS)|((with_reducible refine gSt ?_);refine zs2 ?_;intro wb hS)|(refine zcp 73 (hst (Sep.blk hS zr) (Sep.rd hS zr) (hxs ▸ Sep.frzAt hS zr (by rw [List.length_map];omega))) ?_;intro wb hS)|(refine G.cn ?_ ?_<;>intro hc<;>try exact zxf)))<;>(try clear fct)
  all_goals
   (have fct:=(a7 @q0 @q6 @q11 @q17 @q18 @q21 @q22);refine rM ?_)
   exact ⟨fun h=>absurd h h0,fun _=>by (first|exact (Sep.sub hS zw)|exact ⟨rfl,(Sep.sub hS zw)⟩)⟩
set_option maxHeartbeats 2000000 in
theorem vset_some (rest nm re2 dg sp rec t:Str) (n:Nat) (p1:Bool) (hc:cutT 32 rest=(nm,re2,p1)) (hc2:cutT 32 re2=(dg,sp,true)) (hl:rest.length≤1000) (hn:nmM nm=true) (hnu0:nuM dg=some n) (hun0:unL sp=some rec) (hm:m nm=some t) (htl:t.length≤4000) (hd:byD d) (hr:rightD d=true) (hv:ErrV w0) {E:Int} {NT:Str} (hE:setF d t n rec=E) (hNT:setT d t n ((recsM d rec).getD 0 default)=NT) (hS:Sep w0 w (boxC g 55 [U d.dl,U d.q,I d.e,lv,.map (some r)] :: mapC r S m :: M)) :
 Ret Tryz.prog 49 #[(.pointer (some ⟨g,0,none⟩)),S rest] w (fun res w'=>(E=0→res=.tuple #[S [111,107],I 0]∧Sep w0 w' (boxC g 55 [U d.dl,U d.q,I d.e,lv,.map (some r)] :: mapC r S (mput m nm NT) :: M))∧(E≠0→res=.tuple #[S [],I E]∧Sep w0 w' (boxC g 55 [U d.dl,U d.q,I d.e,lv,.map (some r)] :: mapC r S m :: M))):=by
 refine En 137 c49 Tryz.func49 ?_
 rw [vsetC_eq]
 have hcl:=cutT_len 32 rest
 have hcl2:=cutT_len 32 re2
 have hcu:=fun w=>cut_spec rest 32 w zo
 have hcu2:=fun w=>cut_spec re2 32 w (by rw [hc] at hcl;dsimp only at hcl;omega)
 rw [hc] at hcu hcl
 rw [hc2] at hcu2 hcl2
 dsimp only at hcu hcu2 hcl hcl2
 have hnu:=fun w hv=>number_spec dg w zo hv
 have hun:=fun w=>unspellL_spec sp w zo
 rw [hnu0] at hnu
 rw [hun0] at hun
 simp only [Option.getD_some,Option.isSome_some] at hnu hun
 have hul:=unL_len _ _ (Nat.le_refl _) rec hun0
 have hsl:=spM_len d t
 have hrl:=recs_len d t
 have hrl2:=recs_len d rec
 have hp:=fun w=>inew_spec1 d t w zo hr rfl (rfl:spM d t=spM d t)
 have hq:=fun w=>wpar_spec d rec w zo hr
 have hpn:=parM_len d wideL rec
 have key:∀ {n':Nat} {ρ:Fr} {w':World} {gb1 gb2 g2:Nat} {v2 sv2 v3:Value} {vs2 vs3:List Value} {R R2:Rs} {SP:List (Nat×Nat)},parM d wideL t=R→parM d wideL rec=R2→spM d t=SP→n < R.rs.length→vs3.length=R2.rs.length→ρ 0=(.pointer (some ⟨g,0,none⟩))→ρ 6=S nm→ρ 11=I n→ρ 17=.pointer (some ⟨g2,0,none⟩)→ρ 18=.pointer (some ⟨gb1,0,none⟩)→ρ 21=v3→ρ 22=.pointer (some ⟨gb2,0,none⟩)→Sep w0 w' (boxC gb2 77 [I R2.k,I R2.a] :: accC v3 22 eV vs3 :: frzC eS vs3 (R2.rs.map Prod.fst) :: boxC gb1 77 [I R.k,I R.a] :: boxC g2 156 [U d.dl,U d.q,I d.e,S t,I R.k,I R.a,v2,sv2] :: accC sv2 161 eP SP :: accC v2 22 eV vs2 :: frzC eS vs2 (R.rs.map Prod.fst) :: boxC g 55 [U d.dl,U d.q,I d.e,lv,.map (some r)] :: mapC r S m :: M) →
  G Tryz.prog Tryz.f49 n' [.c vsetT] (fun res w'=>(E=0→res=.tuple #[S [111,107],I 0]∧Sep w0 w' (boxC g 55 [U d.dl,U d.q,I d.e,lv,.map (some r)] :: mapC r S (mput m nm NT) :: M))∧(E≠0→res=.tuple #[S [],I E]∧Sep w0 w' (boxC g 55 [U d.dl,U d.q,I d.e,lv,.map (some r)] :: mapC r S m :: M))) ρ w':=by
  intro n' ρ w' gb1 gb2 g2 v2 sv2 v3 vs2 vs3 R R2 SP e1 e2 e3 hi hvl3 q0 q6 q11 q17 q18 q21 q22 hS
  have e4:recsM d rec=R2.rs.map Prod.fst:=by unfold recsM;rw [e2]
  have e5:(recsM d t).length=R.rs.length:=by rw [hrl,e1]
  unfold setF at hE
  unfold setT at hNT
  rw [e3] at hNT
  rw [e1,e2,e4,List.length_map,if_neg zo] at hE
  refine vset_tail (x:=(R2.rs.map Prod.fst).getD 0 default) hd hr htl (by rw [←e2];omega) hvl3 (fun h=>by rw [if_pos h] at hE;exact hE.symm) (fun h=>?_) q0 q6 q11 q17 q18 q21 q22 hS
  rw [if_neg h] at hE
  have hk1:R.k=0:=Classical.byContradiction fun h3=>h (.inl h3)
  have hk2:R2.k=0:=Classical.byContradiction fun h3=>h (.inr (.inl h3))
  have h1:R2.rs.length=1:=Classical.byContradiction fun h3=>h (.inr (.inr h3))
  obtain ⟨hxl2,hxb2⟩:=parM_mb d wideL rec _ (getD_mem ((parM d wideL rec).rs.map Prod.fst) 0 (by rw [e2,List.length_map];omega))
  have hlf:=plain_line hd wideL rec (by rw [e2];exact hk2) (by rw [e2,List.length_map];exact h1) _ (decide (n=0)) rfl
  have hsp:=spM_spans d t
  rw [e1,e3] at hsp
  rw [e2] at hxl2 hxb2 hlf
  rw [e4] at hNT
  exact ⟨rfl,hE.symm,by unfold setE;rw [if_neg (by rw [←e3];omega),if_neg (fun h=>h hk1)],by omega,fun f hf=>by have:=hxb2 f hf;omega,by omega,hsp,hNT⟩
 by_cases hi:n < (recsM d t).length
 rotate_left
 ·have e:E=25:=by rw [←hE];unfold setF;rw [if_pos hi]
  rw [e]
  clear key
  generalize vsetT=T at *
  unfold vsetC c49
  dsimp only
  generalize parM d wideL t=R at *
  generalize spM d t=SP at *
  (have fct:=(aI @hn @hm);repeat' (first|(refine gO ?_;intro K hK)|(refine kP ?_;clear hK K)|(refine hK _ _ ?_ ?_<;>clear hK K)|(intro wd hxd;have hS:=Sep.xx hxd)|refine sA ?_|(refine bM ?_ ?_<;>intro hb hc<;>first|exact zxf|(simp only [hb];clear hb))|(refine zalc ?_;intro gb wb hS)|((with_reducible refine gSt ?_);refine zs2 ?_;intro wb hS)|((with_reducible (show CallK _ 44 [S rest,S [32]] _ _ _ _));refine zcp 44 (hcu _) ?_;intro wb hS)|((with_reducible (show CallK _ 44 [S re2,S [32]] _ _ _ _));refine zcp 44 (hcu2 _) ?_;intro wb hS)|(refine zcp 66 (hnu _ (hv.ext (Sep.xt ‹_›))) ?_;intro wb hS)|(refine zcp 16 (hun _) ?_;intro wb hS)|(refine zcp 65 (lnamed_spec _ _ zo) ?_;intro wb hS)|(with_reducible refine aI (a:=OT _ _ _ _ _) (b:=OT _ _ _ _ _) ?_ ?_)|(refine zlk ?_)|(refine zco 67 (hp _) ?_;rintro vb wb ⟨g2,v2,vs2,sv2,rfl,hvl,hS2⟩;have hS:=hS2.ap;simp only [apps] at hS)|(refine zn3 ?_)|(refine zn4 ?_)|(refine zcp 68 (iget_spec0 (Sep.blk hS zr) (Sep.rd hS zr) n zo) ?_;intro wb hS)|(refine G.cn ?_ ?_<;>intro hc<;>try exact zxf)))<;>(try clear fct)
  all_goals
   refine rM ?_
   exact ⟨fun h=>by simp at h,fun _=>by (first|exact (Sep.sub hS zw)|exact ⟨rfl,(Sep.sub hS zw)⟩)⟩
 ·obtain ⟨hxl0,hxb⟩:=parM_mb d wideL t _ (getD_mem (recsM d t) n zo)
  have hxl:(((parM d wideL t).rs.map Prod.fst).getD n []).length≤1000000000000:=by show ((recsM d t).getD n default).length≤_;omega
  have key2:=fun {n' ρ w' gb1 gb2 g2 v2 sv2 v3 vs2 vs3} hv q0 q6 q11 q17 q18 q21 q22 hS=>@key n' ρ w' gb1 gb2 g2 v2 sv2 v3 vs2 vs3 _ _ _ rfl rfl rfl zo hv q0 q6 q11 q17 q18 q21 q22 hS
  clear key hE hNT hxb hxl0
  generalize vsetT=T at *
  unfold vsetC c49
  dsimp only
  generalize parM d wideL t=R at *
  generalize parM d wideL rec=R2 at *
  generalize spM d t=SP at *
  (have fct:=(aI @hn @hm);repeat' (first|(refine gO ?_;intro K hK)|(refine kP ?_;clear hK K)|(refine hK _ _ ?_ ?_<;>clear hK K)|(intro wd hxd;have hS:=Sep.xx hxd)|refine sA ?_|(refine bM ?_ ?_<;>intro hb hc<;>first|exact zxf|(simp only [hb];clear hb))|(refine zalc ?_;intro gb wb hS)|((with_reducible refine gSt ?_);refine zs2 ?_;intro wb hS)|((with_reducible (show CallK _ 44 [S rest,S [32]] _ _ _ _));refine zcp 44 (hcu _) ?_;intro wb hS)|((with_reducible (show CallK _ 44 [S re2,S [32]] _ _ _ _));refine zcp 44 (hcu2 _) ?_;intro wb hS)|(refine zcp 66 (hnu _ (hv.ext (Sep.xt ‹_›))) ?_;intro wb hS)|(refine zcp 16 (hun _) ?_;intro wb hS)|(refine zcp 65 (lnamed_spec _ _ zo) ?_;intro wb hS)|(with_reducible refine aI (a:=OT _ _ _ _ _) (b:=OT _ _ _ _ _) ?_ ?_)|(refine zlk ?_)|(refine zco 67 (hp _) ?_;rintro vb wb ⟨g2,v2,vs2,sv2,rfl,hvl,hS2⟩;have hS:=hS2.ap;simp only [apps] at hS)|(refine zn3 ?_)|(refine zn4 ?_)|(refine zco 68 (iget_spec1 (Sep.blk hS zr) (Sep.rd hS zr) (Sep.rd hS zr) n zo zo (Sep.frzAt hS zr (by rw [List.length_map];omega)) hxl) ?_;rintro vb wb ⟨rv,rfl,hS2⟩;have hS:=hS2.ap;simp only [apps] at hS)|((with_reducible (show CallK _ 72 [] _ _ _ _));refine zcp 72 (wide_spec _) ?_;intro wb hS)|(refine zco 38 (hq _) ?_;rintro vb wb ⟨v3,vs3,rfl,hvl3,hS2⟩;have hS:=hS2.ap;simp only [apps] at hS)|(refine G.cn ?_ ?_<;>intro hc<;>try exact zxf)))<;>(try clear fct)
  all_goals exact key2 hvl3 (by simp only [push_cast,↓reduceIte,zq1,zq2,zq3,zq4,zq5]<;>rfl) (by simp only [push_cast,↓reduceIte,zq1,zq2,zq3,zq4,zq5]<;>rfl) (by simp only [push_cast,↓reduceIte,zq1,zq2,zq3,zq4,zq5]<;>rfl) (by simp only [push_cast,↓reduceIte,zq1,zq2,zq3,zq4,zq5]<;>rfl) (by simp only [push_cast,↓reduceIte,zq1,zq2,zq3,zq4,zq5]<;>rfl) (by simp only [push_cast,↓reduceIte,zq1,zq2,zq3,zq4,zq5]<;>rfl) (by simp only [push_cast,↓reduceIte,zq1,zq2,zq3,zq4,zq5]<;>rfl) (Sep.sub hS zw)
end
def exT:Str:=[120,44,121,10,122]
def exM:Nat→Str→Option Str
 | 0=>fun _=>none
 | _+1=>mput (fun _=>none) [97] exT
def exD:Dl:=⟨44,34,1⟩
theorem ex_parse:parM exD wideL exT=⟨[([[120],[121]],3),([[122]],5)],0,0⟩:=zf
theorem lit3 {w:World} {g:Nat} {t:TypeId} {a b c:Str} (h:Blk w g t [S a,S b,S c].toArray):Rd w eS (.slice (some ⟨g,0,none⟩) 3 3) [a,b,c]:=lit_rdS [a,b,c] h rfl ze
def exL:List Str:=[[112,117,116,32,97,32,120,44,121,92,110,122],[99,104,101,99,107,32,97],[103,101,116,32,97,32,49]]
def exA:List Str:=[[111,107],[114,101,99,111,114,100,115,32,50],[122]]
def exP (g k:Nat) (L:List Chk):Prop:=∃ r,L=[boxC g 55 [U 44,U 34,I 1,.slice none 0 0,.map (some r)],mapC r S (exM k)]
theorem ex_line {w:World} (hv:ErrV w) (ht:Tab w) (g k:Nat) (L M:List Chk) (w':World) (hk:k < 3) (hP:exP g k L) (hS:Sep w w' (L++M)) :
 Ret Tryz.prog 11 #[(.pointer (some ⟨g,0,none⟩)),S (exL.getD k default)] w' fun v w2=>v=S (exA.getD k default)∧∃ L',exP g (k+1) L'∧Sep w w2 (L'++M):=by
 obtain ⟨r,rfl⟩:=hP
 have key:∀ (v1:Str) (m':Str→Option Str),m'=exM (k+1)→v1=exA.getD k default→Ret Tryz.prog 11 #[(.pointer (some ⟨g,0,none⟩)),S (exL.getD k default)] w' (fun v w2=>v=S (ansM v1 0)∧Sep w w2 (boxC g 55 [U 44,U 34,I 1,.slice none 0 0,.map (some r)] :: mapC r S m' :: M)) →
  Ret Tryz.prog 11 #[(.pointer (some ⟨g,0,none⟩)),S (exL.getD k default)] w' fun v w2=>v=S (exA.getD k default)∧∃ L',exP g (k+1) L'∧Sep w w2 (L'++M):=by
  intro v1 m' e1 e2 h
  refine Calls.mono h ?_
  rintro e w2 ⟨v,he,h1,h2⟩
  exact ⟨v,he,by rw [h1,←e2];rfl,_,⟨r,rfl⟩,by rw [←e1];exact h2⟩
 match k,hk with
 | 0, _ =>
   refine key [111,107] (exM 1) rfl rfl ?_
   exact Line_of _ ⟨by decide,by decide⟩ (.inl rfl) (fun w2 hS=>line_put _ [97,32,120,44,121,92,110,122] zf zd
    (fun w3 hS=>put_spec1 _ false zd (fun _ _ h=>by simp [exM] at h) zf hS) hS) hS
 | 1, _ =>
   refine key [114,101,99,111,114,100,115,32,50] (exM 2) rfl rfl ?_
   have hq:[114,101,99,111,114,100,115,32]++Lib.itoa (parM exD wideL exT).rs.length=[114,101,99,111,114,100,115,32,50]:=by rw [ex_parse];kernel_rfl
   exact Line_of _ ⟨by decide,by decide⟩ (.inl rfl) (fun w2 hS=>line_check _ [97] zf zd
    (fun w3 hS=>(ncheck_spec (d:=exD) [97] exT zd _ (fun w4 hS=>dcheck_spec exT zd rfl (by rw [ex_parse]) ht hS) zf rfl hS).mono fun v w' h=>by rw [hq] at h;exact h) hS) hS
 | 2, _ =>
   refine key [122] (exM 3) rfl rfl ?_
   exact Line_of _ ⟨by decide,by decide⟩ (.inl rfl) (fun w2 hS=>line_get _ [97,32,49] zf zd
    (fun w3 hS=>get_spec1 (d:=exD) [97,32,49] [97] [49] exT 1 zf zd zf zf rfl zd (by unfold byD exD;decide) rfl ex_parse zd (x:=[[122]]) rfl zf zd zd hv hS) hS) hS
def c9:MC:=(Z (yr [qq 0 (.mv (kb false))]) (Z (yr [qq 2 (.bsl 9 [(S []),(S []),(S [])] 3 [⟨0,⟨1,(yc (S [112,117,116,32,97,32,120,44,121,92,110,122]))⟩⟩,⟨1,⟨1,(yc (S [99,104,101,99,107,32,97]))⟩⟩,⟨2,⟨1,(yc (S [103,101,116,32,97,32,49]))⟩⟩]),qq 3 (yl 13 [(Y 2)]),qm 1 3]) (Z (yr [qm 4 1,qq 5 (.bsl 9 [(S []),(S []),(S [])] 3 [⟨0,⟨1,(yc (S [111,107]))⟩⟩,⟨1,⟨1,(yc (S [114,101,99,111,114,100,115,32,50]))⟩⟩,⟨2,⟨1,(yc (S [122]))⟩⟩]),qq 6 (yl 12 [(Y 4),(Y 5)]),qm 0 6]) .ret)))
theorem awake30_spec (w:World) (hv:ErrV w) (ht:Tab w):Pu Tryz.prog 9 #[] w (.bool true):=by
 refine En 7 c9 Tryz.func9 ?_
 have hS:=Sep.start w
 repeat' (first|refine G.reg fun K hK=>?_|(refine kM ?_;clear hK K)|refine sA ?_|(refine zbsl ?_;intro gb wb hS)|(refine zco 13 (play_spec (l:=exL) (aa:=exA) (lit3 (Sep.blk ‹_› zr)) rfl zd exP (fun g r w' h=>⟨_,⟨r,rfl⟩,h⟩) (fun g k L M w' hk=>ex_line (hv.ext (Sep.xt ‹_›)) (ht.ext (Sep.xt ‹_›)) g k L M w' hk)) ?_;rintro vb wb hS2;have hS:=hS2.ap;simp only [apps] at hS)|(refine zcp 12 (same05_spec (Sep.rd hS zr) (lit3 (Sep.blk hS zr))) ?_;intro wb hS))
 all_goals
  refine rM ?_
  first|exact Sep.xt ‹_›|exact ⟨rfl,Sep.xt ‹_›⟩
section
variable {g r:Nat} {d d':Dl} {lv:Value} {m:Str→Option Str} {M:List Chk} {w w0:World}
def c45:MC:=(Z (yr [qq 4 (.mv (yc (S []))),qq 5 (.mv (ki 0))]) (Z (yr [qm 9 1,qq 10 (yl 62 [(Y 9)]),qm 8 10,qq 11 (.ext 0 (Y 8)),qq 12 (.ext 1 (Y 8)),qq 6 (.alc 39 [(.int .u8 0),(.int .u8 0),(.int .i64 0)]),qn (.st 3 (Y 6) (Y 11)),qm 7 12]) (Z (Z (yr [qm 13 7,qq 14 (yb .neq (Y 13) (ki 0))]) (yd (Y 14) (Z (yr [qm 15 7,qq 4 (.mv (yc (S []))),qm 5 15]) .ret) yk)) (Z (yr [qm 16 0,qq 17 (.ld (.some 3) (Y 6)),qq 18 (.nck (Y 16)),qq 19 (.fad 0 (Y 18)),qn (.st 3 (Y 19) (Y 17))]) (Z (yr [qq 4 (.mv (yc (S [111,107]))),qq 5 (.mv (ki 0))]) .ret)))))
theorem ddial_spec1 (s:Str) (hl:s.length≤1000000) (hp:dpM s=(d',0)) (hS:Sep w0 w (boxC g 55 [U d.dl,U d.q,I d.e,lv,.map (some r)] :: mapC r S m :: M)) :
 Ret Tryz.prog 45 #[(.pointer (some ⟨g,0,none⟩)),S s] w fun v w'=>v=.tuple #[S [111,107],I 0]∧Sep w0 w' (boxC g 55 [U d'.dl,U d'.q,I d'.e,lv,.map (some r)] :: mapC r S m :: M):=by
 refine En 20 c45 Tryz.func45 ?_
 have hdp:=fun w=>dparse_spec s w zo
 rw [hp] at hdp
 dsimp only at hdp
 repeat' (first|refine G.reg fun K hK=>?_|(refine kM ?_;clear hK K)|refine sA ?_|(refine zalc ?_;intro gb wb hS)|((with_reducible refine gSt ?_);refine zs2 ?_;intro wb hS)|(refine zcp 62 (hdp _) ?_;intro wb hS)|(refine G.cn ?_ ?_<;>intro hc<;>try exact zxf))
 all_goals
  refine rM ?_
  (first|exact (Sep.sub hS zw)|exact ⟨rfl,(Sep.sub hS zw)⟩)
end
end Go.Proofs.YtllanbmpacgigaaGreatDoor
