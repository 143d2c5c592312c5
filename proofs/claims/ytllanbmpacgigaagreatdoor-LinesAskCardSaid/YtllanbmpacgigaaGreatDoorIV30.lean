/- Texts of the proof, joined. -/
import Derived.Test.YtllanbmpacgigaaGreatDoorIU30
import Derived.Test.YtllanbmpacgigaaGreatDoorIV20
namespace Go.Proofs.YtllanbmpacgigaaGreatDoor
open Operand renaming tmp→Y,const→yc
open MC renaming seq→Z,reg→yr,skip→yk,cond→yd
open MO renaming call→yl,bin→yb
open Nat renaming reduceAdd→zq1,reduceLeDiff→zq2,reduceEqDiff→zq3,reduceLT→zq4
open Int renaming reduceToNat→zq5
set_option linter.unusedSimpArgs false
set_option linter.unusedVariables false
attribute [local irreducible] SemK UnitK StK AlcK BslK CallK CallV Instr.box Builtin.append_ Instr.makeSlice Instr.makeMap Instr.lookup Instr.mapUpdate Instr.sliceAt convert
open Go.RowKit
def rowsK (d:Dl) (l:List Col) (s:Str):List (List Val)×Int:=if l.length=0 then ([],13) else ((readM d l 2 s).1,(readM d l 2 s).2.k)
section
variable {g r:Nat} {d:Dl} {l:List Col} {lv:Value} {m:Str→Option Str} {M:List Chk} {w w0:World}
def c75:MC:=(Z (yr [qq 4 (.mv (yc (.slice none 0 0))),qq 5 (.mv (ki 0))]) (Z (Z (yr [qm 8 0,qq 9 (.nck (Y 8)),qq 10 (.fad 3 (Y 9)),qq 11 (.ld none (Y 10)),qq 12 (.len (Y 11)),qq 13 (yb .eql (Y 12) (ki 0))]) (yd (Y 13) (Z (yr [qq 4 (.mv (yc (.slice none 0 0))),qq 5 (.mv (ki 13))]) .ret) yk)) (Z (.drg [qm 15 0,qq 16 (.nck (Y 15)),qq 17 (.fad 0 (Y 16)),qq 18 (.ld (.some 3) (Y 17)),qm 19 0,qq 20 (.nck (Y 19)),qq 21 (.fad 3 (Y 20)),qq 22 (.ld none (Y 21)),qm 23 1,qq 24 (yl 107 [(Y 18),(Y 22),(ki 2),(Y 23)]),qm 14 24,qq 25 (.ext 0 (Y 14)),qq 26 (.ext 1 (Y 14)),qq 7 (.alc 163 [(.int .i64 0),(.int .i64 0),(.int .i64 0),(.int .i64 0)]),qm 6 25,qn (.st 4 (Y 7) (Y 26))] (.some (.br [qm 15 0,qq 16 (.nck (Y 15)),qq 17 (.fad 0 (Y 16)),qm 19 0,qq 20 (.nck (Y 19)),qq 21 (.fad 3 (Y 20)),qm 23 1] (.br [qq 18 (.ld (.some 3) (Y 17))] (.br [qq 22 (.ld none (Y 21))] (.leaf [qq 24 (yl 107 [(Y 18),(Y 22),(ki 2),(Y 23)]),qm 14 24,qq 25 (.ext 0 (Y 14)),qq 26 (.ext 1 (Y 14)),qq 7 (.alc 163 [(.int .i64 0),(.int .i64 0),(.int .i64 0),(.int .i64 0)]),qm 6 25,qn (.st 4 (Y 7) (Y 26))]) (.leaf [qq 7 (.alc 163 [(.int .i64 0),(.int .i64 0),(.int .i64 0),(.int .i64 0)]),qq 24 (yl 107 [(Y 18),(Y 22),(ki 2),(Y 23)]),qm 14 24,qq 25 (.ext 0 (Y 14)),qq 26 (.ext 1 (Y 14)),qm 6 25,qn (.st 4 (Y 7) (Y 26))])) (.leaf [qq 7 (.alc 163 [(.int .i64 0),(.int .i64 0),(.int .i64 0),(.int .i64 0)]),qq 22 (.ld none (Y 21)),qq 24 (yl 107 [(Y 18),(Y 22),(ki 2),(Y 23)]),qm 14 24,qq 25 (.ext 0 (Y 14)),qq 26 (.ext 1 (Y 14)),qm 6 25,qn (.st 4 (Y 7) (Y 26))])) (.br [] (.br [qq 22 (.ld none (Y 21))] (.br [qq 18 (.ld (.some 3) (Y 17))] (.leaf [qq 24 (yl 107 [(Y 18),(Y 22),(ki 2),(Y 23)]),qm 14 24,qq 25 (.ext 0 (Y 14)),qq 26 (.ext 1 (Y 14)),qq 7 (.alc 163 [(.int .i64 0),(.int .i64 0),(.int .i64 0),(.int .i64 0)]),qm 6 25,qn (.st 4 (Y 7) (Y 26))]) (.leaf [qq 7 (.alc 163 [(.int .i64 0),(.int .i64 0),(.int .i64 0),(.int .i64 0)]),qq 24 (yl 107 [(Y 18),(Y 22),(ki 2),(Y 23)]),qm 14 24,qq 25 (.ext 0 (Y 14)),qq 26 (.ext 1 (Y 14)),qm 6 25,qn (.st 4 (Y 7) (Y 26))])) (.leaf [qq 7 (.alc 163 [(.int .i64 0),(.int .i64 0),(.int .i64 0),(.int .i64 0)]),qq 18 (.ld (.some 3) (Y 17)),qq 24 (yl 107 [(Y 18),(Y 22),(ki 2),(Y 23)]),qm 14 24,qq 25 (.ext 0 (Y 14)),qq 26 (.ext 1 (Y 14)),qm 6 25,qn (.st 4 (Y 7) (Y 26))])) (.br [qq 7 (.alc 163 [(.int .i64 0),(.int .i64 0),(.int .i64 0),(.int .i64 0)])] (.leaf [qq 18 (.ld (.some 3) (Y 17)),qq 22 (.ld none (Y 21)),qq 24 (yl 107 [(Y 18),(Y 22),(ki 2),(Y 23)]),qm 14 24,qq 25 (.ext 0 (Y 14)),qq 26 (.ext 1 (Y 14)),qm 6 25,qn (.st 4 (Y 7) (Y 26))]) (.leaf [qq 22 (.ld none (Y 21)),qq 18 (.ld (.some 3) (Y 17)),qq 24 (yl 107 [(Y 18),(Y 22),(ki 2),(Y 23)]),qm 14 24,qq 25 (.ext 0 (Y 14)),qq 26 (.ext 1 (Y 14)),qm 6 25,qn (.st 4 (Y 7) (Y 26))])))))) (Z (.drg [qm 27 6,qq 28 (.fad 0 (Y 7)),qq 29 (.ld none (Y 28)),qm 4 27,qm 5 29] none) .ret))))
set_option maxHeartbeats 1000000 in
theorem vrows_spec (s:Str) (hs:s.length≤800000) (hl1:l.length≤1000000) (hl2:∀ c∈l,c.name.length≤100000000000) (hv:ErrV w0) (hS:Sep w0 w (boxC g 55 [U d.dl,U d.q,I d.e,lv,.map (some r)] :: mapC r S m :: accC lv 121 eC l :: M)) :
 Ret Tryz.prog 75 #[(.pointer (some ⟨g,0,none⟩)),S s] w fun res w'=>∃ v vs,res=.tuple #[v,I (rowsK d l s).2]∧Sep w0 w' (accC v 124 eV vs :: frzC eVal vs (rowsK d l s).1 :: boxC g 55 [U d.dl,U d.q,I d.e,lv,.map (some r)] :: mapC r S m :: accC lv 121 eC l :: M):=by
 refine En 30 c75 Tryz.func75 ?_
 unfold rowsK
 by_cases h0:l.length=0
 ·rw [if_pos h0]
  have h00:(l.length:Int)=0:=by omega
  (have fct:=@h00;repeat' (first|(refine gO ?_;intro K hK)|(refine kP ?_;clear hK K)|(refine hK _ _ ?_ ?_<;>clear hK K)|(intro wd hxd;have hS:=Sep.xx hxd)|refine sA ?_|(refine zalc ?_;intro gb wb hS)|((with_reducible refine gSt ?_);refine zs2 ?_;intro wb hS)|(refine G.cn ?_ ?_<;>intro hc<;>try exact zxf)))<;>(try clear fct)
  all_goals
   refine rM ?_
   exact ⟨_,[],rfl,((hS.frz0 eVal).nil 124 eV)⟩
 ·rw [if_neg h0]
  have hrd:=fun w (h:Rd w eC lv l) hx=>read_spec d 2 s w h hs zo hl2 (hv.ext hx)
  unfold RdR at hrd
  generalize readM d l 2 s=p at *
  repeat' (first|(refine gO ?_;intro K hK)|(refine kP ?_;clear hK K)|(refine hK _ _ ?_ ?_<;>clear hK K)|(intro wd hxd;have hS:=Sep.xx hxd)|refine sA ?_|(refine zalc ?_;intro gb wb hS)|((with_reducible refine gSt ?_);refine zs2 ?_;intro wb hS)|(with_reducible refine aI (a:=OT _ _ _ _ _) (b:=OT _ _ _ _ _) ?_ ?_)|(refine zco 107 (hrd _ (Sep.rd hS zr) (Sep.xt ‹_›)) ?_;rintro vb wb ⟨v,vs,rfl,hS2⟩;have hS:=hS2.ap;simp only [apps] at hS)|(refine G.cn ?_ ?_<;>intro hc<;>try exact zxf))
  all_goals
   refine rM ?_
   exact ⟨_,_,rfl,(Sep.sub hS zw)⟩
end
end Go.Proofs.YtllanbmpacgigaaGreatDoor
