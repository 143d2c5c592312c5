/- Texts of the proof, joined. -/
import Derived.Test.YtllanbmpacgigaaGreatDoorIF30
import Derived.Test.YtllanbmpacgigaaGreatDoorIWu
namespace Go.Proofs.YtllanbmpacgigaaGreatDoor
open Operand renaming tmp→Y,const→yc
open MC renaming seq→Z,reg→yr,skip→yk,cond→yd
open MO renaming call→yl,bin→yb
open Nat renaming reduceAdd→zq1,reduceLeDiff→zq2,reduceEqDiff→zq3,reduceLT→zq4
open Int renaming reduceToNat→zq5
set_option linter.unusedSimpArgs false
set_option linter.unusedVariables false
attribute [local irreducible] SemK UnitK StK AlcK BslK CallK CallV Instr.box Builtin.append_ Instr.makeSlice Instr.makeMap Instr.lookup Instr.mapUpdate Instr.sliceAt convert
open Go.RowKit
section
variable {g r:Nat} {d:Dl} {lv:Value} {m:Str→Option Str} {M:List Chk} {w w0:World}
def c80:MC:=(Z (yr [qq 4 (.mv (yc (S [])))]) (Z (.drg [qm 8 0,qq 9 (.nck (Y 8)),qq 10 (.fad 0 (Y 9)),qq 11 (.ld (.some 3) (Y 10)),qq 12 (yl 72 []),qm 13 1,qq 14 (yl 38 [(Y 11),(Y 12),(Y 13)]),qm 7 14,qq 15 (.ext 0 (Y 7)),qq 16 (.ext 1 (Y 7)),qq 6 (.alc 77 [(.int .i64 0),(.int .i64 0)]),qm 5 15,qn (.st 2 (Y 6) (Y 16))] (.some (.br [qm 8 0,qq 9 (.nck (Y 8)),qq 10 (.fad 0 (Y 9)),qm 13 1] (.br [qq 11 (.ld (.some 3) (Y 10))] (.br [qq 12 (yl 72 [])] (.leaf [qq 14 (yl 38 [(Y 11),(Y 12),(Y 13)]),qm 7 14,qq 15 (.ext 0 (Y 7)),qq 16 (.ext 1 (Y 7)),qq 6 (.alc 77 [(.int .i64 0),(.int .i64 0)]),qm 5 15,qn (.st 2 (Y 6) (Y 16))]) (.leaf [qq 6 (.alc 77 [(.int .i64 0),(.int .i64 0)]),qq 14 (yl 38 [(Y 11),(Y 12),(Y 13)]),qm 7 14,qq 15 (.ext 0 (Y 7)),qq 16 (.ext 1 (Y 7)),qm 5 15,qn (.st 2 (Y 6) (Y 16))])) (.leaf [qq 6 (.alc 77 [(.int .i64 0),(.int .i64 0)]),qq 12 (yl 72 []),qq 14 (yl 38 [(Y 11),(Y 12),(Y 13)]),qm 7 14,qq 15 (.ext 0 (Y 7)),qq 16 (.ext 1 (Y 7)),qm 5 15,qn (.st 2 (Y 6) (Y 16))])) (.br [] (.br [qq 12 (yl 72 [])] (.br [qq 11 (.ld (.some 3) (Y 10))] (.leaf [qq 14 (yl 38 [(Y 11),(Y 12),(Y 13)]),qm 7 14,qq 15 (.ext 0 (Y 7)),qq 16 (.ext 1 (Y 7)),qq 6 (.alc 77 [(.int .i64 0),(.int .i64 0)]),qm 5 15,qn (.st 2 (Y 6) (Y 16))]) (.leaf [qq 6 (.alc 77 [(.int .i64 0),(.int .i64 0)]),qq 14 (yl 38 [(Y 11),(Y 12),(Y 13)]),qm 7 14,qq 15 (.ext 0 (Y 7)),qq 16 (.ext 1 (Y 7)),qm 5 15,qn (.st 2 (Y 6) (Y 16))])) (.leaf [qq 6 (.alc 77 [(.int .i64 0),(.int .i64 0)]),qq 11 (.ld (.some 3) (Y 10)),qq 14 (yl 38 [(Y 11),(Y 12),(Y 13)]),qm 7 14,qq 15 (.ext 0 (Y 7)),qq 16 (.ext 1 (Y 7)),qm 5 15,qn (.st 2 (Y 6) (Y 16))])) (.br [qq 6 (.alc 77 [(.int .i64 0),(.int .i64 0)])] (.leaf [qq 11 (.ld (.some 3) (Y 10)),qq 12 (yl 72 []),qq 14 (yl 38 [(Y 11),(Y 12),(Y 13)]),qm 7 14,qq 15 (.ext 0 (Y 7)),qq 16 (.ext 1 (Y 7)),qm 5 15,qn (.st 2 (Y 6) (Y 16))]) (.leaf [qq 12 (yl 72 []),qq 11 (.ld (.some 3) (Y 10)),qq 14 (yl 38 [(Y 11),(Y 12),(Y 13)]),qm 7 14,qq 15 (.ext 0 (Y 7)),qq 16 (.ext 1 (Y 7)),qm 5 15,qn (.st 2 (Y 6) (Y 16))])))))) (Z (Z (yr [qq 17 (.fad 0 (Y 6)),qq 18 (.ld none (Y 17)),qq 19 (yb .neq (Y 18) (ki 0))]) (yd (Y 19) (Z (.drg [qq 20 (.fad 0 (Y 6)),qq 21 (.ld none (Y 20)),qq 22 (yl 30 [(Y 21)]),qq 23 (yb .add (yc (S [102,97,117,108,116,32])) (Y 22)),qq 24 (yb .add (Y 23) (yc (S [32]))),qq 25 (.fad 1 (Y 6)),qq 26 (.ld none (Y 25)),qq 27 (yl 30 [(Y 26)]),qq 28 (yb .add (Y 24) (Y 27)),qm 4 28] (.some (.br [qq 20 (.fad 0 (Y 6)),qq 25 (.fad 1 (Y 6))] (.br [qq 21 (.ld none (Y 20))] (.leaf [qq 22 (yl 30 [(Y 21)]),qq 23 (yb .add (yc (S [102,97,117,108,116,32])) (Y 22)),qq 24 (yb .add (Y 23) (yc (S [32]))),qq 26 (.ld none (Y 25)),qq 27 (yl 30 [(Y 26)]),qq 28 (yb .add (Y 24) (Y 27)),qm 4 28]) (.leaf [qq 26 (.ld none (Y 25)),qq 22 (yl 30 [(Y 21)]),qq 23 (yb .add (yc (S [102,97,117,108,116,32])) (Y 22)),qq 24 (yb .add (Y 23) (yc (S [32]))),qq 27 (yl 30 [(Y 26)]),qq 28 (yb .add (Y 24) (Y 27)),qm 4 28])) (.leaf [qq 26 (.ld none (Y 25)),qq 21 (.ld none (Y 20)),qq 22 (yl 30 [(Y 21)]),qq 23 (yb .add (yc (S [102,97,117,108,116,32])) (Y 22)),qq 24 (yb .add (Y 23) (yc (S [32]))),qq 27 (yl 30 [(Y 26)]),qq 28 (yb .add (Y 24) (Y 27)),qm 4 28])))) .ret) yk)) (Z (yr [qm 29 5,qq 30 (.len (Y 29)),qq 31 (yl 30 [(Y 30)]),qq 32 (yb .add (yc (S [114,101,99,111,114,100,115,32])) (Y 31)),qm 4 32]) .ret))))
set_option maxHeartbeats 1000000 in
theorem dcheck_spec (s:Str) (hl:s.length≤900000) (hr:rightD d=true) (hk:(parM d wideL s).k=0) (ht:Tab w0) (hS:Sep w0 w (boxC g 55 [U d.dl,U d.q,I d.e,lv,.map (some r)] :: mapC r S m :: M)) :
 Ret Tryz.prog 80 #[(.pointer (some ⟨g,0,none⟩)),S s] w fun res w'=>res=S ([114,101,99,111,114,100,115,32]++Lib.itoa (parM d wideL s).rs.length)∧Sep w0 w' (boxC g 55 [U d.dl,U d.q,I d.e,lv,.map (some r)] :: mapC r S m :: M):=by
 refine En 33 c80 Tryz.func80 ?_
 have hp:=fun w=>wpar_spec d s w hl hr
 have hn:=parM_len d wideL s
 have hb:=itoa_ln (parM d wideL s).rs.length zo zo
 generalize parM d wideL s=R at *
 have hit:∀ {k:Nat} {w2:World},k=R.rs.length→Ext w0 w2→Pu Tryz.prog 30 #[I k] w2 (S (Lib.itoa R.rs.length)):=fun {k w2} h hx=>by rw [h];exact itoa_spec _ _ zo zo (ht.ext hx)
 (have fct:=@hk;repeat' (first|(refine gO ?_;intro K hK)|(refine kP ?_;clear hK K)|(refine hK _ _ ?_ ?_<;>clear hK K)|(intro wd hxd;have hS:=Sep.xx hxd)|refine sA ?_|(refine zalc ?_;intro gb wb hS)|((with_reducible refine gSt ?_);refine zs2 ?_;intro wb hS)|(with_reducible refine aI (a:=OT _ _ _ _ _) (b:=OT _ _ _ _ _) ?_ ?_)|((with_reducible (show CallK _ 72 [] _ _ _ _));refine zcp 72 (wide_spec _) ?_;intro wb hS)|(refine zco 38 (hp _) ?_;rintro vb wb ⟨v,vs,rfl,hvl,hS2⟩;have hS:=hS2.ap;simp only [apps] at hS)|(refine zcp 30 (hit hvl (Sep.xt ‹_›)) ?_;intro wb hS)|(refine G.cn ?_ ?_<;>intro hc<;>try exact zxf)))<;>(try clear fct)
 all_goals
  refine rM ?_
  (first|exact (Sep.sub hS zw)|exact ⟨rfl,(Sep.sub hS zw)⟩)
def c81:MC:=(Z (yr [qq 6 (.mv (yc (S []))),qq 7 (.mv (ki 0))]) (Z (.drg [qm 14 0,qq 15 (.nck (Y 14)),qq 16 (.fad 0 (Y 15)),qq 17 (.ld (.some 3) (Y 16)),qq 18 (yl 72 []),qm 19 2,qq 20 (yl 38 [(Y 17),(Y 18),(Y 19)]),qm 13 20,qq 21 (.ext 0 (Y 13)),qq 22 (.ext 1 (Y 13)),qq 9 (.alc 77 [(.int .i64 0),(.int .i64 0)]),qm 8 21,qn (.st 2 (Y 9) (Y 22))] (.some (.br [qm 14 0,qq 15 (.nck (Y 14)),qq 16 (.fad 0 (Y 15)),qm 19 2] (.br [qq 17 (.ld (.some 3) (Y 16))] (.br [qq 18 (yl 72 [])] (.leaf [qq 20 (yl 38 [(Y 17),(Y 18),(Y 19)]),qm 13 20,qq 21 (.ext 0 (Y 13)),qq 22 (.ext 1 (Y 13)),qq 9 (.alc 77 [(.int .i64 0),(.int .i64 0)]),qm 8 21,qn (.st 2 (Y 9) (Y 22))]) (.leaf [qq 9 (.alc 77 [(.int .i64 0),(.int .i64 0)]),qq 20 (yl 38 [(Y 17),(Y 18),(Y 19)]),qm 13 20,qq 21 (.ext 0 (Y 13)),qq 22 (.ext 1 (Y 13)),qm 8 21,qn (.st 2 (Y 9) (Y 22))])) (.leaf [qq 9 (.alc 77 [(.int .i64 0),(.int .i64 0)]),qq 18 (yl 72 []),qq 20 (yl 38 [(Y 17),(Y 18),(Y 19)]),qm 13 20,qq 21 (.ext 0 (Y 13)),qq 22 (.ext 1 (Y 13)),qm 8 21,qn (.st 2 (Y 9) (Y 22))])) (.br [] (.br [qq 18 (yl 72 [])] (.br [qq 17 (.ld (.some 3) (Y 16))] (.leaf [qq 20 (yl 38 [(Y 17),(Y 18),(Y 19)]),qm 13 20,qq 21 (.ext 0 (Y 13)),qq 22 (.ext 1 (Y 13)),qq 9 (.alc 77 [(.int .i64 0),(.int .i64 0)]),qm 8 21,qn (.st 2 (Y 9) (Y 22))]) (.leaf [qq 9 (.alc 77 [(.int .i64 0),(.int .i64 0)]),qq 20 (yl 38 [(Y 17),(Y 18),(Y 19)]),qm 13 20,qq 21 (.ext 0 (Y 13)),qq 22 (.ext 1 (Y 13)),qm 8 21,qn (.st 2 (Y 9) (Y 22))])) (.leaf [qq 9 (.alc 77 [(.int .i64 0),(.int .i64 0)]),qq 17 (.ld (.some 3) (Y 16)),qq 20 (yl 38 [(Y 17),(Y 18),(Y 19)]),qm 13 20,qq 21 (.ext 0 (Y 13)),qq 22 (.ext 1 (Y 13)),qm 8 21,qn (.st 2 (Y 9) (Y 22))])) (.br [qq 9 (.alc 77 [(.int .i64 0),(.int .i64 0)])] (.leaf [qq 17 (.ld (.some 3) (Y 16)),qq 18 (yl 72 []),qq 20 (yl 38 [(Y 17),(Y 18),(Y 19)]),qm 13 20,qq 21 (.ext 0 (Y 13)),qq 22 (.ext 1 (Y 13)),qm 8 21,qn (.st 2 (Y 9) (Y 22))]) (.leaf [qq 18 (yl 72 []),qq 17 (.ld (.some 3) (Y 16)),qq 20 (yl 38 [(Y 17),(Y 18),(Y 19)]),qm 13 20,qq 21 (.ext 0 (Y 13)),qq 22 (.ext 1 (Y 13)),qm 8 21,qn (.st 2 (Y 9) (Y 22))])))))) (Z (Z (yr [qq 23 (.fad 0 (Y 9)),qq 24 (.ld none (Y 23)),qq 25 (yb .neq (Y 24) (ki 0))]) (yd (Y 25) (Z (.drg [qq 26 (.fad 0 (Y 9)),qq 27 (.ld none (Y 26)),qq 6 (.mv (yc (S []))),qm 7 27] none) .ret) yk)) (Z (yr [qm 29 0,qq 30 (.nck (Y 29)),qq 31 (.fad 0 (Y 30)),qq 32 (.ld (.some 3) (Y 31)),qm 33 8,qq 34 (yl 118 [(Y 32),(Y 33)]),qm 28 34,qq 35 (.ext 0 (Y 28)),qq 36 (.ext 1 (Y 28)),qq 37 (.ext 2 (Y 28)),qm 10 35,qm 11 36,qm 12 37]) (Z (Z (yr [qm 38 12,qq 39 (yb .neq (Y 38) (ki 0))]) (yd (Y 39) (Z (yr [qm 40 12,qq 6 (.mv (yc (S []))),qm 7 40]) .ret) yk)) (Z (yr [qm 41 0,qq 42 (.nck (Y 41)),qq 43 (.fad 4 (Y 42)),qq 44 (.ld none (Y 43)),qm 45 1,qm 46 10,qn (.raw (.mapUpdate 52 (Y 44) (Y 45) (Y 46)) 0)]) (Z (yr [qq 6 (.mv (yc (S [111,107]))),qq 7 (.mv (ki 0))]) .ret)))))))
set_option maxHeartbeats 1000000 in
theorem dplain_spec1 (nm s:Str) (hl:s.length≤900000) (hd:byD d) (hr:rightD d=true) {R:Rs} (hR:parM d wideL s=R) (hmb:TabB 2100 2100 (R.rs.map Prod.fst)) (htl:R.rs.length≤2100) (hk:R.k=0) (hf:frN (R.rs.map Prod.fst)=R.rs.length) (hS:Sep w0 w (boxC g 55 [U d.dl,U d.q,I d.e,lv,.map (some r)] :: mapC r S m :: M)) :
 Ret Tryz.prog 81 #[(.pointer (some ⟨g,0,none⟩)),S nm,S s] w fun res w'=>res=.tuple #[S [111,107],I 0]∧Sep w0 w' (boxC g 55 [U d.dl,U d.q,I d.e,lv,.map (some r)] :: mapC r S (mput m nm (txtF d true (R.rs.map Prod.fst))) :: M):=by
 refine En 47 c81 Tryz.func81 ?_
 have hp:=fun w=>wpar_spec d s w hl hr
 rw [hR] at hp
 have hwt:wtV d (R.rs.map Prod.fst)=.tuple #[S (txtF d true (R.rs.map Prod.fst)),I R.rs.length,I 0]:=by unfold wtV;rw [List.length_map,if_pos hf]
 have hwb:=fun {v:Value} {w:World} h=>wtb_spec (v:=v) (w:=w) d hd hr h hmb (by rw [List.length_map];omega)
 rw [hwt] at hwb
 (have fct:=@hk;repeat' (first|(refine gO ?_;intro K hK)|(refine kP ?_;clear hK K)|(refine hK _ _ ?_ ?_<;>clear hK K)|(intro wd hxd;have hS:=Sep.xx hxd)|refine sA ?_|(refine zalc ?_;intro gb wb hS)|((with_reducible refine gSt ?_);refine zs2 ?_;intro wb hS)|(with_reducible refine aI (a:=OT _ _ _ _ _) (b:=OT _ _ _ _ _) ?_ ?_)|((with_reducible (show CallK _ 72 [] _ _ _ _));refine zcp 72 (wide_spec _) ?_;intro wb hS)|(refine zco 38 (hp _) ?_;rintro vb wb ⟨v,vs,rfl,hvl,hS2⟩;have hS:=hS2.ap;simp only [apps] at hS)|(refine zcp 118 (hwb (Sep.rdT hS zr zr)) ?_;intro wb hS)|(refine zmu ?_;intro wb hS)|(refine G.cn ?_ ?_<;>intro hc<;>try exact zxf)))<;>(try clear fct)
 all_goals
  refine rM ?_
  (first|exact (Sep.sub hS zw)|exact ⟨rfl,(Sep.sub hS zw)⟩)
theorem frN_bad:∀ t:List (List Str),frN t≠t.length→mayR (t.getD (frN t) default)≠0
 | [],h=>absurd rfl h
 | r :: t,h=>by
   rw [frN] at h ⊢
   by_cases h1:mayR r=0
   ·rw [if_pos h1] at h ⊢
    have:=frN_bad t (by simpa using h)
    simpa using this
   ·rw [if_neg h1];simpa using h1
theorem tabB_of (d:Dl) (l:Lm) (s:Str) (hl:s.length≤1040):TabB 2100 2100 ((parM d l s).rs.map Prod.fst):=fun x hx=>⟨by have:=(parM_mb d l s x hx).1;omega,fun f hf=>by have:=(parM_mb d l s x hx).2 f hf;omega⟩
def plE (R:Rs):Int:=if R.k=0 then mayR ((R.rs.map Prod.fst).getD (frN (R.rs.map Prod.fst)) default) else R.k
set_option maxHeartbeats 1000000 in
theorem dplain_spec0 (nm s:Str) (hl:s.length≤900000) (hd:byD d) (hr:rightD d=true) {R:Rs} (hR:parM d wideL s=R) (hmb:TabB 2100 2100 (R.rs.map Prod.fst)) (htl:R.rs.length≤2100) (hf:R.k≠0∨frN (R.rs.map Prod.fst)≠R.rs.length) (hS:Sep w0 w (boxC g 55 [U d.dl,U d.q,I d.e,lv,.map (some r)] :: mapC r S m :: M)) :
 Ret Tryz.prog 81 #[(.pointer (some ⟨g,0,none⟩)),S nm,S s] w fun res w'=>res=.tuple #[S [],I (plE R)]∧Sep w0 w' (boxC g 55 [U d.dl,U d.q,I d.e,lv,.map (some r)] :: mapC r S m :: M):=by
 refine En 47 c81 Tryz.func81 ?_
 have hp:=fun w=>wpar_spec d s w hl hr
 rw [hR] at hp
 by_cases hk:R.k=0
 ·have hf:=hf.resolve_left (fun h=>h hk)
  have he:plE R=mayR ((R.rs.map Prod.fst).getD (frN (R.rs.map Prod.fst)) default):=by unfold plE;rw [if_pos hk]
  have hen:=frN_bad (R.rs.map Prod.fst) (by rw [List.length_map];exact hf)
  rw [←he] at hen
  have hwt:wtV d (R.rs.map Prod.fst)=.tuple #[S [],I (frN (R.rs.map Prod.fst)),I (plE R)]:=by unfold wtV;rw [List.length_map,if_neg hf,he]
  have hwb:=fun {v:Value} {w:World} h=>wtb_spec (v:=v) (w:=w) d hd hr h hmb (by rw [List.length_map];omega)
  rw [hwt] at hwb
  generalize plE R=e at *
  (have fct:=@hk;repeat' (first|(refine gO ?_;intro K hK)|(refine kP ?_;clear hK K)|(refine hK _ _ ?_ ?_<;>clear hK K)|(intro wd hxd;have hS:=Sep.xx hxd)|refine sA ?_|(refine zalc ?_;intro gb wb hS)|((with_reducible refine gSt ?_);refine zs2 ?_;intro wb hS)|(with_reducible refine aI (a:=OT _ _ _ _ _) (b:=OT _ _ _ _ _) ?_ ?_)|((with_reducible (show CallK _ 72 [] _ _ _ _));refine zcp 72 (wide_spec _) ?_;intro wb hS)|(refine zco 38 (hp _) ?_;rintro vb wb ⟨v,vs,rfl,hvl,hS2⟩;have hS:=hS2.ap;simp only [apps] at hS)|(refine zcp 118 (hwb (Sep.rdT hS zr zr)) ?_;intro wb hS)|(refine G.cn ?_ ?_<;>intro hc<;>try exact zxf)))<;>(try clear fct)
  all_goals
   refine rM ?_
   (first|exact (Sep.sub hS zw)|exact ⟨rfl,(Sep.sub hS zw)⟩)
 ·have he:plE R=R.k:=by unfold plE;rw [if_neg hk]
  rw [he]
  repeat' (first|(refine gO ?_;intro K hK)|(refine kP ?_;clear hK K)|(refine hK _ _ ?_ ?_<;>clear hK K)|(intro wd hxd;have hS:=Sep.xx hxd)|refine sA ?_|(refine zalc ?_;intro gb wb hS)|((with_reducible refine gSt ?_);refine zs2 ?_;intro wb hS)|(with_reducible refine aI (a:=OT _ _ _ _ _) (b:=OT _ _ _ _ _) ?_ ?_)|((with_reducible (show CallK _ 72 [] _ _ _ _));refine zcp 72 (wide_spec _) ?_;intro wb hS)|(refine zco 38 (hp _) ?_;rintro vb wb ⟨v,vs,rfl,hvl,hS2⟩;have hS:=hS2.ap;simp only [apps] at hS)|(refine G.cn ?_ ?_<;>intro hc<;>try exact zxf))
  all_goals
   refine rM ?_
   (first|exact (Sep.sub hS zw)|exact ⟨rfl,(Sep.sub hS zw)⟩)
end
section
variable {g r:Nat} {d:Dl} {lv:Value} {m:Str→Option Str} {M:List Chk} {w w0:World}
theorem ne1:(([99,104,101,99,107]:Str) == [115,104,111,119])=false:=by decide
theorem ne2:(([112,108,97,105,110]:Str) == [115,104,111,119])=false:=by decide
theorem ne3:(([112,108,97,105,110]:Str) == [99,104,101,99,107])=false:=by decide
def c51:MC:=(Z (yr [qq 6 (.mv (yc (S []))),qq 7 (.mv (ki 0))]) (Z (Z (yr [qm 12 2,qq 13 (yl 65 [(Y 12)]),qq 14 (.un .not (Y 13))]) (yd (Y 14) (Z (yr [qq 6 (.mv (yc (S []))),qq 7 (.mv (ki 23))]) .ret) yk)) (Z (yr [qm 16 0,qq 17 (.nck (Y 16)),qq 18 (.fad 4 (Y 17)),qq 19 (.ld none (Y 18)),qm 20 2,qq 21 (.raw (.lookup 52 (Y 19) (Y 20) true) 34),qm 15 21,qq 22 (.ext 0 (Y 15)),qq 23 (.ext 1 (Y 15)),qm 8 22,qm 9 23]) (Z (Z (yr [qm 24 9,qq 25 (.un .not (Y 24))]) (yd (Y 25) (Z (yr [qq 6 (.mv (yc (S []))),qq 7 (.mv (ki 25))]) .ret) yk)) (Z (Z (yr [qm 26 1]) (.blk 0 (Z (yr [qq 28 (yb .eql (Y 26) (yc (S [115,104,111,119]))),qm 27 28]) (yd (Y 27) (Z (yr [qm 29 8,qq 30 (yl 15 [(Y 29)]),qm 6 30,qq 7 (.mv (ki 0))]) .ret) (Z (yr [qq 32 (yb .eql (Y 26) (yc (S [99,104,101,99,107]))),qm 31 32]) (yd (Y 31) (Z (yr [qm 33 0,qm 34 8,qq 35 (yl 80 [(Y 33),(Y 34)]),qm 6 35,qq 7 (.mv (ki 0))]) .ret) (Z (yr [qq 37 (yb .eql (Y 26) (yc (S [112,108,97,105,110]))),qm 36 37]) (yd (Y 36) (Z (yr [qm 38 0,qm 39 2,qm 40 8,qq 41 (yl 81 [(Y 38),(Y 39),(Y 40)]),qq 42 (.ext 0 (Y 41)),qq 43 (.ext 1 (Y 41)),qm 6 42,qm 7 43]) .ret) (Z (yr [qq 45 (yb .eql (Y 26) (yc (S [115,110,105,102,102]))),qm 44 45]) (yd (Y 44) (Z (yr [qm 46 0,qm 47 8,qq 48 (yl 82 [(Y 46),(Y 47)]),qq 49 (.ext 0 (Y 48)),qq 50 (.ext 1 (Y 48)),qm 6 49,qm 7 50]) .ret) yk)))))))))) (Z (yr [qm 52 0,qm 53 8,qq 54 (yl 75 [(Y 52),(Y 53)]),qm 51 54,qq 55 (.ext 0 (Y 51)),qq 56 (.ext 1 (Y 51)),qm 10 55,qm 11 56]) (Z (Z (yr [qm 57 11,qq 58 (yb .neq (Y 57) (ki 0))]) (yd (Y 58) (Z (yr [qm 59 11,qq 6 (.mv (yc (S []))),qm 7 59]) .ret) yk)) (Z (yr [qm 60 10,qq 61 (.len (Y 60)),qq 62 (yl 30 [(Y 61)]),qm 6 62,qq 7 (.mv (ki 0))]) .ret))))))))
theorem nshow_spec (nm t:Str) (hl:nm.length≤100000000) (htl:t.length≤100000000000) (hn:nmM nm=true) (ht:m nm=some t) (hS:Sep w0 w (boxC g 55 [U d.dl,U d.q,I d.e,lv,.map (some r)] :: mapC r S m :: M)) :
 Ret Tryz.prog 51 #[(.pointer (some ⟨g,0,none⟩)),S [115,104,111,119],S nm] w fun v w'=>v=.tuple #[S (sqM t),I 0]∧Sep w0 w' (boxC g 55 [U d.dl,U d.q,I d.e,lv,.map (some r)] :: mapC r S m :: M):=by
 refine En 63 c51 Tryz.func51 ?_
 (have fct:=(aI @hn @ht);repeat' (first|refine G.reg fun K hK=>?_|(refine kM ?_;clear hK K)|refine sA ?_|(refine zcp 65 (lnamed_spec _ _ zo) ?_;intro wb hS)|(refine zlk ?_)|(refine zcp 15 (spellL_spec t _ htl) ?_;intro wb hS)|(refine G.cn ?_ ?_<;>intro hc<;>try exact zxf)))<;>(try clear fct)
 all_goals
  refine rM ?_
  (first|exact hS|exact ⟨rfl,hS⟩)
theorem ncheck_spec (nm t:Str) (hl:nm.length≤100000000) (v1:Str) (hp:∀ w,Sep w0 w (boxC g 55 [U d.dl,U d.q,I d.e,lv,.map (some r)] :: mapC r S m :: M)→Ret Tryz.prog 80 #[(.pointer (some ⟨g,0,none⟩)),S t] w fun res w'=>res=S v1∧Sep w0 w' (boxC g 55 [U d.dl,U d.q,I d.e,lv,.map (some r)] :: mapC r S m :: M)) (hn:nmM nm=true) (ht:m nm=some t) (hS:Sep w0 w (boxC g 55 [U d.dl,U d.q,I d.e,lv,.map (some r)] :: mapC r S m :: M)) :
 Ret Tryz.prog 51 #[(.pointer (some ⟨g,0,none⟩)),S [99,104,101,99,107],S nm] w fun v w'=>v=.tuple #[S v1,I 0]∧Sep w0 w' (boxC g 55 [U d.dl,U d.q,I d.e,lv,.map (some r)] :: mapC r S m :: M):=by
 refine En 63 c51 Tryz.func51 ?_
 have e1:=ne1
 (have fct:=(a3 @hn @ht @e1);repeat' (first|refine G.reg fun K hK=>?_|(refine kM ?_;clear hK K)|refine sA ?_|(refine zcp 65 (lnamed_spec _ _ zo) ?_;intro wb hS)|(refine zlk ?_)|(refine zco 80 (hp _ hS) ?_;rintro vb wb ⟨rfl,hS⟩)|(refine G.cn ?_ ?_<;>intro hc<;>try exact zxf)))<;>(try clear fct)
 all_goals
  refine rM ?_
  (first|exact hS|exact ⟨rfl,hS⟩)
theorem nplain_spec (nm t:Str) (hl:nm.length≤100000000) (v1:Str) (v2:Int) (m':Str→Option Str) (hp:∀ w,Sep w0 w (boxC g 55 [U d.dl,U d.q,I d.e,lv,.map (some r)] :: mapC r S m :: M)→Ret Tryz.prog 81 #[(.pointer (some ⟨g,0,none⟩)),S nm,S t] w fun res w'=>res=.tuple #[S v1,I v2]∧Sep w0 w' (boxC g 55 [U d.dl,U d.q,I d.e,lv,.map (some r)] :: mapC r S m' :: M)) (hn:nmM nm=true) (ht:m nm=some t) (hS:Sep w0 w (boxC g 55 [U d.dl,U d.q,I d.e,lv,.map (some r)] :: mapC r S m :: M)) :
 Ret Tryz.prog 51 #[(.pointer (some ⟨g,0,none⟩)),S [112,108,97,105,110],S nm] w fun v w'=>v=.tuple #[S v1,I v2]∧Sep w0 w' (boxC g 55 [U d.dl,U d.q,I d.e,lv,.map (some r)] :: mapC r S m' :: M):=by
 refine En 63 c51 Tryz.func51 ?_
 have e2:=ne2
 have e3:=ne3
 (have fct:=(a4 @hn @ht @e2 @e3);repeat' (first|refine G.reg fun K hK=>?_|(refine kM ?_;clear hK K)|refine sA ?_|(refine zcp 65 (lnamed_spec _ _ zo) ?_;intro wb hS)|(refine zlk ?_)|(refine zco 81 (hp _ hS) ?_;rintro vb wb ⟨rfl,hS⟩)|(refine G.cn ?_ ?_<;>intro hc<;>try exact zxf)))<;>(try clear fct)
 all_goals
  refine rM ?_
  (first|exact hS|exact ⟨rfl,hS⟩)
end
end Go.Proofs.YtllanbmpacgigaaGreatDoor
