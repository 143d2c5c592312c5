/- Texts of the proof, joined. -/
import Derived.Test.YtllanbmpacgigaaGreatDoorProg
import Derived.Test.YtllanbmpacgigaaGreatDoorIMc
import Derived.Test.YtllanbmpacgigaaGreatDoorIPa
namespace Go.Proofs.YtllanbmpacgigaaGreatDoor
open Operand renaming tmp→Y,const→yc
open MC renaming seq→Z,reg→yr,skip→yk,cond→yd
open MO renaming call→yl,bin→yb
open Nat renaming reduceAdd→zq1,reduceLeDiff→zq2,reduceEqDiff→zq3,reduceLT→zq4
open Int renaming reduceToNat→zq5
set_option linter.unusedSimpArgs false
set_option linter.unusedVariables false
attribute [local irreducible] SemK UnitK StK AlcK BslK CallK CallV Instr.box Builtin.append_ Instr.makeSlice Instr.makeMap Instr.lookup Instr.mapUpdate Instr.sliceAt convert
open Go.RowKit
theorem mixed:Tryz.prog.follows .mixedOrders=true:=zf
def c55:MC:=(Z (yr [qm 2 0,qq 3 (.nck (Y 2)),qq 4 (.fad 0 (Y 3)),qq 5 (.ld none (Y 4)),qq 6 (.raw (.binOp .eql 64 (Y 5) (yc (.pointer none)) 64) 4)]) (yd (Y 6) (yr [qm 7 0,qm 8 0,qq 9 (.raw (.convert 64 132 (Y 8)) 132),qq 10 (.raw (.call ⟨(.value (.func 84)),#[(Y 9)],#[132]⟩) 132),qq 11 (.raw (.convert 132 64 (Y 10)) 64),qq 12 (.nck (Y 7)),qq 13 (.fad 0 (Y 12)),qn (.st 1 (Y 13) (Y 11))]) (Z (yr [qm 14 0,qq 15 (.nck (Y 14)),qq 16 (.fad 0 (Y 15)),qq 17 (.ld none (Y 16)),qm 18 0,qq 19 (.raw (.binOp .neq 64 (Y 17) (Y 18) 64) 4)]) (yd (Y 19) .bad yk))))
theorem bchk_spec {g:Nat} {p bv:Value} {M:List Chk} {w w0:World} (hS:Sep w0 w (boxC g 67 [p,bv] :: M)) (hp:p=.pointer none∨p=.pointer (some ⟨g,0,none⟩)) :
 Ret Tryz.prog 55 #[.pointer (some ⟨g,0,none⟩)] w fun res w'=>res=.tuple #[]∧Sep w0 w' (boxC g 67 [.pointer (some ⟨g,0,none⟩),bv] :: M):=by
 refine En 20 c55 Tryz.func55 ?_
 rcases hp with rfl|rfl
 ·repeat' (first|refine aM ?_|refine G.reg fun K hK=>?_|(refine kM ?_;clear hK K)|(refine kN ?_;clear hK K;intro wd hxd;have hS:=Sep.ext ‹_› hxd)|((first|have hk:=hK|have hk:=hK2);clear hk;simp (disch:=(first|exact dis|fail)) only [push_cast,↓reduceIte,zq1,zq2,zq3,zq4,zq5,O_noe])|((first|refine brO_mk ?_ ?_|refine brQ_mk ?_ ?_)<;>intro hb<;>(try simp only [Bool.not_eq_true',Bool.not_eq_false'] at hb)<;>have hc:=hb<;>(try simp only [hcs,reduceCtorEq] at hc)<;>(try (exfalso;omega))<;>simp only [hb]<;>clear hb)|(refine zalc ?_;intro gb wb hS)|(refine zbsl ?_;intro gb wb hS)|((with_reducible (show SemK _ (Instr.box _ _) _ _ _ _));refine zbox ?_;intro gb wb hS)|((with_reducible (show StK _ _ (Value.pointer _) _ _ _ _ _));refine zst ?_;intro wb hS;(try simp only [sets] at hS))|(refine zcv ?_)|(refine zn3 ?_)|(refine zn4 ?_)|(refine cv_to (hS.blk .h) rfl ?_)|(refine cv_from (hS.blk .h) rfl ?_)|(refine pureK ?_)|(refine G.drt mixed fun K hK wd hxd=>?_;have hS:=Sep.ext ‹_› hxd)|with_reducible refine OT_leaf ?_|(with_reducible refine OT_tail fun K2 hK2=>?_)|(refine kO ?_;clear hK2 K2;intro wd hxd;have hS:=Sep.ext ‹_› hxd)|with_reducible refine OT_br fun K2 hK2=>?_|(refine hK2 _ _ ?_ ?_<;>clear hK2 K2)|refine G.drg mixed fun K hK=>?_|(refine G.cond (by simp only [push_cast,↓reduceIte,zq1,zq2,zq3,zq4,zq5,O_noe];rfl) ?_ ?_<;>intro hc<;>(try simp only [hcs,reduceCtorEq] at hc)<;>(try (exfalso;omega))))
  all_goals exact G.done0 rfl ⟨rfl,hS⟩
 ·repeat' (first|refine G.reg fun K hK=>?_|(refine kM ?_;clear hK K)|refine sA ?_|((with_reducible refine gSt ?_);refine zs2 ?_;intro wb hS)|(refine zcv ?_)|(refine zn3 ?_)|(refine zn4 ?_)|(refine eqSelf_n dpt bld_has ?_)|(refine G.cn ?_ ?_<;>intro hc<;>try exact zxf))
  all_goals exact G.done0 rfl ⟨rfl,hS⟩
def c35:MC:=(Z (yr [qq 4 (.mv (yc .nilIface))]) (Z (yr [qm 5 0,qq 6 (yl 55 [(Y 5)])]) (Z (yr [qm 7 0,qm 8 0,qq 9 (.nck (Y 8)),qq 10 (.fad 1 (Y 9)),qq 11 (.ld none (Y 10)),qm 12 1,qq 13 (.bsl 5 [(.int .u8 0)] 1 [⟨0,⟨1,(Y 12)⟩⟩]),qq 14 (.raw (.call ⟨(.builtin .append),#[(Y 11),(Y 13)],#[65,65]⟩) 65),qq 15 (.nck (Y 7)),qq 16 (.fad 1 (Y 15)),qn (.st 1 (Y 16) (Y 14))]) (Z (yr [qq 4 (.mv (yc .nilIface))]) .ret))))
def c34:MC:=(Z (yr [qq 4 (.mv (ki 0)),qq 5 (.mv (yc .nilIface))]) (Z (yr [qm 6 0,qq 7 (yl 55 [(Y 6)])]) (Z (yr [qm 8 0,qm 9 0,qq 10 (.nck (Y 9)),qq 11 (.fad 1 (Y 10)),qq 12 (.ld none (Y 11)),qm 13 1,qq 14 (.raw (.call ⟨(.builtin .append),#[(Y 12),(Y 13)],#[65,9]⟩) 65),qq 15 (.nck (Y 8)),qq 16 (.fad 1 (Y 15)),qn (.st 1 (Y 16) (Y 14))]) (Z (yr [qm 17 1,qq 18 (.lenS (Y 17)),qm 4 18,qq 5 (.mv (yc .nilIface))]) .ret))))
theorem bwb_spec {g:Nat} {xs:Str} {L R:List Chk} {w w0:World} (c:UInt8) (hS:Sep w0 w L) (he:Ex (bldC g 67 5 xs) L R) (hl:xs.length≤1000000000000) :
 Ret Tryz.prog 35 #[.pointer (some ⟨g,0,none⟩),U c.toNat] w fun res w'=>res=.nilIface∧Sep w0 w' (bldC g 67 5 (xs++[c]) :: R):=by
 refine En 17 c35 Tryz.func35 ?_
 obtain ⟨p,bv,hp,hS⟩:=hS.openB he
 repeat' (first|refine G.reg fun K hK=>?_|(refine kM ?_;clear hK K)|refine sA ?_|(refine zbsl ?_;intro gb wb hS)|((with_reducible refine gSt ?_);refine zs2 ?_;intro wb hS)|((refine zco 55 (bchk_spec hS hp) ?_);rintro vb wb ⟨rfl,hS⟩)|(refine zap (E:=eU) (y:=c) ?_;intro vb wb hS))
 refine rM ?_
 exact hS.shutB (.inr rfl)
theorem bws_spec {g:Nat} {xs s:Str} {L R:List Chk} {w w0:World} (hS:Sep w0 w L) (he:Ex (bldC g 67 5 xs) L R) (hl:xs.length≤1000000000000) (hl2:s.length≤1000000000000) :
 Ret Tryz.prog 34 #[.pointer (some ⟨g,0,none⟩),S s] w fun res w'=>res=.tuple #[I s.length,.nilIface]∧Sep w0 w' (bldC g 67 5 (xs++s) :: R):=by
 refine En 19 c34 Tryz.func34 ?_
 obtain ⟨p,bv,hp,hS⟩:=hS.openB he
 repeat' (first|refine G.reg fun K hK=>?_|(refine kM ?_;clear hK K)|refine sA ?_|((with_reducible refine gSt ?_);refine zs2 ?_;intro wb hS)|((refine zco 55 (bchk_spec hS hp) ?_);rintro vb wb ⟨rfl,hS⟩)|(refine zas ?_ Tryz.underlying9;intro vb wb hS))
 refine rM ?_
 exact hS.shutB (.inr rfl)
def c36:MC:=(Z (yr [qq 2 (.mv (yc (S [])))]) (Z (.drg [qm 3 0,qq 4 (.nck (Y 3)),qq 5 (.fad 1 (Y 4)),qq 6 (.ld none (Y 5)),qq 7 (.raw (.call ⟨(.builtin .unsafeSliceData),#[(Y 6)],#[65]⟩) 90),qm 8 0,qq 9 (.nck (Y 8)),qq 10 (.fad 1 (Y 9)),qq 11 (.ld none (Y 10)),qq 12 (.len (Y 11)),qq 13 (.raw (.call ⟨(.builtin .unsafeString),#[(Y 7),(Y 12)],#[90,3]⟩) 9),qm 2 13] (.some (.br [qm 3 0,qq 4 (.nck (Y 3)),qq 5 (.fad 1 (Y 4)),qm 8 0,qq 9 (.nck (Y 8)),qq 10 (.fad 1 (Y 9))] (.br [qq 6 (.ld none (Y 5))] (.leaf [qq 7 (.raw (.call ⟨(.builtin .unsafeSliceData),#[(Y 6)],#[65]⟩) 90),qq 11 (.ld none (Y 10)),qq 12 (.len (Y 11)),qq 13 (.raw (.call ⟨(.builtin .unsafeString),#[(Y 7),(Y 12)],#[90,3]⟩) 9),qm 2 13]) (.leaf [qq 11 (.ld none (Y 10)),qq 12 (.len (Y 11)),qq 7 (.raw (.call ⟨(.builtin .unsafeSliceData),#[(Y 6)],#[65]⟩) 90),qq 13 (.raw (.call ⟨(.builtin .unsafeString),#[(Y 7),(Y 12)],#[90,3]⟩) 9),qm 2 13])) (.leaf [qq 11 (.ld none (Y 10)),qq 12 (.len (Y 11)),qq 6 (.ld none (Y 5)),qq 7 (.raw (.call ⟨(.builtin .unsafeSliceData),#[(Y 6)],#[65]⟩) 90),qq 13 (.raw (.call ⟨(.builtin .unsafeString),#[(Y 7),(Y 12)],#[90,3]⟩) 9),qm 2 13])))) .ret))
theorem bst_spec {g:Nat} {xs:Str} {L R:List Chk} {w w0:World} (hS:Sep w0 w L) (he:Ex (bldC g 67 5 xs) L R) :
 Ret Tryz.prog 36 #[.pointer (some ⟨g,0,none⟩)] w fun res w'=>res=S xs∧Sep w0 w' R:=by
 refine En 14 c36 Tryz.func36 ?_
 obtain ⟨p,bv,hp,hS⟩:=hS.openB he
 repeat' (first|refine aM ?_|refine G.reg fun K hK=>?_|(refine kM ?_;clear hK K)|(refine kN ?_;clear hK K;intro wd hxd;have hS:=Sep.ext ‹_› hxd)|((first|have hk:=hK|have hk:=hK2);clear hk;simp (disch:=(first|exact dis|fail)) only [push_cast,↓reduceIte,zq1,zq2,zq3,zq4,zq5,O_usd,O_ust])|((first|refine brO_mk ?_ ?_|refine brQ_mk ?_ ?_)<;>intro hb<;>(try simp only [Bool.not_eq_true',Bool.not_eq_false'] at hb)<;>have hc:=hb<;>(try simp only [hcs,reduceCtorEq] at hc)<;>(try (exfalso;omega))<;>simp only [hb]<;>clear hb)|(refine zalc ?_;intro gb wb hS)|(refine zbsl ?_;intro gb wb hS)|((with_reducible (show SemK _ (Instr.box _ _) _ _ _ _));refine zbox ?_;intro gb wb hS)|((with_reducible (show StK _ _ (Value.pointer _) _ _ _ _ _));refine zst ?_;intro wb hS;(try simp only [sets] at hS))|(refine zcv ?_)|(refine zusd ?_ ‹_› zr u8_ptr;intro q wb hS hq)|(refine zust ?_ ‹_› zr ‹_› u8_ptr u8_cells;intro wb hS)|(refine G.drt mixed fun K hK wd hxd=>?_;have hS:=Sep.ext ‹_› hxd)|with_reducible refine OT_leaf ?_|(with_reducible refine OT_tail fun K2 hK2=>?_)|(refine kO ?_;clear hK2 K2;intro wd hxd;have hS:=Sep.ext ‹_› hxd)|with_reducible refine OT_br fun K2 hK2=>?_|(refine hK2 _ _ ?_ ?_<;>clear hK2 K2)|refine G.drg mixed fun K hK=>?_|(refine G.cond (by simp only [push_cast,↓reduceIte,zq1,zq2,zq3,zq4,zq5,O_usd,O_ust];rfl) ?_ ?_<;>intro hc<;>(try simp only [hcs,reduceCtorEq] at hc)<;>(try (exfalso;omega))))
 all_goals
  refine rM ?_
  exact Sep.drop hS .h
def c157:MC:=(Z (yr [qq 4 (.mv (kb false))]) (Z (yr [qm 5 0,qq 6 (.lenS (Y 5)),qm 7 1,qq 8 (.lenS (Y 7)),qq 9 (yb .geq (Y 6) (Y 8)),qm 10 9,qmt 10 11 0,qmt 10 12 1,qt 10 13 (.lenS (Y 12)),qt 10 14 (.slS (Y 11) none (.some (Y 13))),qmt 10 15 1,qt 10 16 (yb .eql (Y 14) (Y 15)),qq 17 (.pick (Y 10) (Y 16) (kb false)),qm 4 17]) .ret))
theorem hp_spec (s p:Str) (w:World) (hl:s.length≤1000000000) (hp:p.length≤1000000000):Pu Tryz.prog 157 #[S s,S p] w (.bool (s.take p.length == p)):=by
 refine En 18 c157 Tryz.func157 ?_
 have hS:=Sep.start w
 by_cases h:(p.length:Int)≤s.length
 ·(have fct:=@h;repeat' (first|refine G.reg fun K hK=>?_|(refine kM ?_;clear hK K)|refine sA ?_|(refine brO_n ?_ ?_<;>intro hb hc<;>first|exact zxf|(simp only [hb];clear hb))))<;>(try clear fct)
  all_goals
   (have fct:=@h;refine rM ?_)
   (first|exact Sep.xt ‹_›|exact ⟨rfl,Sep.xt ‹_›⟩)
 ·have hne:(s.take p.length == p)=false:=by
   rw [beq_eq_false_iff_ne]
   intro e
   have:=congrArg List.length e
   simp at this;omega
  (have fct:=@h;repeat' (first|refine G.reg fun K hK=>?_|(refine kM ?_;clear hK K)|refine sA ?_|(refine brO_n ?_ ?_<;>intro hb hc<;>first|exact zxf|(simp only [hb];clear hb))))<;>(try clear fct)
  all_goals
   (have fct:=@h;refine rM ?_)
   rw [hne]
   (first|exact Sep.xt ‹_›|exact ⟨rfl,Sep.xt ‹_›⟩)
def c116:MC:=(Z (yr [qq 4 (.mv (kb false))]) (Z (yr [qm 5 0,qm 6 1,qq 7 (yl 157 [(Y 5),(Y 6)]),qm 4 7]) .ret))
theorem shp_spec (s p:Str) (w:World) (hl:s.length≤1000000000) (hp:p.length≤1000000000):Pu Tryz.prog 116 #[S s,S p] w (.bool (s.take p.length == p)):=by
 refine En 8 c116 Tryz.func116 ?_
 have hS:=Sep.start w
 repeat' (first|refine G.reg fun K hK=>?_|(refine kM ?_;clear hK K)|refine sA ?_|(refine zcp 157 (hp_spec s p _ hl hp) ?_;intro wb hS))
 refine rM ?_
 exact Sep.xt ‹_›
def c167:MC:=(Z (yr [qq 4 (.mv (yc (S []))),qq 5 (.mv (kb false))]) (Z (Z (yr [qm 6 0,qm 7 1,qq 8 (yl 157 [(Y 6),(Y 7)]),qq 9 (.un .not (Y 8))]) (yd (Y 9) (Z (yr [qm 10 0,qm 4 10,qq 5 (.mv (kb false))]) .ret) yk)) (Z (yr [qm 11 0,qm 12 1,qq 13 (.lenS (Y 12)),qq 14 (.slS (Y 11) (.some (Y 13)) none),qm 4 14,qq 5 (.mv (kb true))]) .ret)))
theorem cutp0_spec (s p:Str) (w:World) (hl:s.length≤1000000000) (hp:p.length≤1000000000):Pu Tryz.prog 167 #[S s,S p] w (.tuple #[S (if (s.take p.length == p)=true then s.drop p.length else s),.bool (s.take p.length == p)]):=by
 refine En 15 c167 Tryz.func167 ?_
 have hS:=Sep.start w
 cases h:(s.take p.length == p)
 ·rw [if_neg ze]
  (have fct:=@h;repeat' (first|refine G.reg fun K hK=>?_|(refine kM ?_;clear hK K)|refine sA ?_|(refine zcp 157 (hp_spec s p _ hl hp) ?_;intro wb hS)|(refine G.cn ?_ ?_<;>intro hc<;>try exact zxf)))<;>(try clear fct)
  all_goals
   (have fct:=@h;refine rM ?_)
   (first|exact Sep.xt ‹_›|exact ⟨rfl,Sep.xt ‹_›⟩)
 ·rw [if_pos rfl]
  have hlen:(p.length:Int)≤s.length:=by
   have e:s.take p.length=p:=by simpa using h
   have:=congrArg List.length e
   simp at this;omega
  (have fct:=@h;repeat' (first|refine G.reg fun K hK=>?_|(refine kM ?_;clear hK K)|refine sA ?_|(refine zcp 157 (hp_spec s p _ hl hp) ?_;intro wb hS)|(refine G.cn ?_ ?_<;>intro hc<;>try exact zxf)))<;>(try clear fct)
  all_goals
   (have fct:=@h;refine rM ?_)
   (first|exact Sep.xt ‹_›|exact ⟨rfl,Sep.xt ‹_›⟩)
def cf128:MC:=(Z (yr [qq 4 (.mv (yc (S []))),qq 5 (.mv (kb false))]) (Z (yr [qm 6 0,qm 7 1,qq 8 (yl 167 [(Y 6),(Y 7)]),qq 9 (.ext 0 (Y 8)),qq 10 (.ext 1 (Y 8)),qm 4 9,qm 5 10]) .ret))
theorem cutp_spec (s p:Str) (w:World) (hl:s.length≤1000000000) (hp:p.length≤1000000000):Pu Tryz.prog 128 #[S s,S p] w (.tuple #[S (if (s.take p.length == p)=true then s.drop p.length else s),.bool (s.take p.length == p)]):=by
 refine En 11 cf128 Tryz.func128 ?_
 have hS:=Sep.start w
 repeat' (first|refine G.reg fun K hK=>?_|(refine kM ?_;clear hK K)|refine sA ?_|(refine zcp 167 (cutp0_spec s p _ hl hp) ?_;intro wb hS))
 refine rM ?_
 (first|exact Sep.xt ‹_›|exact ⟨rfl,Sep.xt ‹_›⟩)
end Go.Proofs.YtllanbmpacgigaaGreatDoor
