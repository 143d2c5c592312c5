/- Texts of the proof, joined. -/
import Derived.Test.YtllanbmpacgigaaGreatDoorIF30
import Derived.Test.YtllanbmpacgigaaGreatDoorIW06
namespace Go.Proofs.YtllanbmpacgigaaGreatDoor
open Operand renaming tmp→Y,const→yc
open MC renaming seq→Z,reg→yr,skip→yk,cond→yd
open MO renaming call→yl,bin→yb
open Nat renaming reduceAdd→zq1,reduceLeDiff→zq2,reduceEqDiff→zq3,reduceLT→zq4
open Int renaming reduceToNat→zq5
set_option linter.unusedSimpArgs false
set_option linter.unusedVariables false
attribute [local irreducible] SemK UnitK StK AlcK BslK CallK CallV Instr.box Builtin.append_ Instr.makeSlice Instr.makeMap Instr.lookup Instr.mapUpdate Instr.sliceAt convert
open Go.RowKit
structure Dk where
 d:Dl
 l:List Col
 m:Str→Option Str
def ahM (l:List Col):Str×Int:=if l.length=0 then ([],0) else (if (checkM (l.map nkC)).2=0 then textM l else [],(checkM (l.map nkC)).2)
def colK (l:List Col) (rest:Str):Except Int (List Col) :=
 if (ahM l).2≠0 then .error (ahM l).2 else if (prsM ((ahM l).1++rest++[10])).2.2≠0 then .error (prsM ((ahM l).1++rest++[10])).2.2 else .ok (prsM ((ahM l).1++rest++[10])).1
section
variable {g r:Nat} {d:Dl} {l:List Col} {lv:Value} {m:Str→Option Str} {M:List Chk} {w w0:World}
def c46:MC:=(Z (yr [qq 4 (.mv (yc (S []))),qq 5 (.mv (ki 0))]) (Z (yr [qq 6 (.mv (yc (S [])))]) (Z (Z (yr [qm 12 0,qq 13 (.nck (Y 12)),qq 14 (.fad 3 (Y 13)),qq 15 (.ld none (Y 14)),qq 16 (.len (Y 15)),qq 17 (yb .gtr (Y 16) (ki 0))]) (yd (Y 17) (Z (yr [qm 19 0,qq 20 (.nck (Y 19)),qq 21 (.fad 3 (Y 20)),qq 22 (.ld none (Y 21)),qq 23 (yl 63 [(Y 22)]),qm 18 23,qq 24 (.ext 0 (Y 18)),qq 25 (.ext 1 (Y 18)),qm 7 24,qm 8 25]) (Z (Z (yr [qm 26 8,qq 27 (yb .neq (Y 26) (ki 0))]) (yd (Y 27) (Z (yr [qm 28 8,qq 4 (.mv (yc (S []))),qm 5 28]) .ret) yk)) (yr [qm 29 7,qm 6 29]))) yk)) (Z (yr [qm 31 6,qm 32 1,qq 33 (yb .add (Y 31) (Y 32)),qq 34 (yb .add (Y 33) (yc (S [10]))),qq 35 (yl 64 [(Y 34)]),qm 30 35,qq 36 (.ext 0 (Y 30)),qq 37 (.ext 1 (Y 30)),qq 38 (.ext 2 (Y 30)),qm 9 36,qm 10 37,qm 11 38]) (Z (Z (yr [qm 39 11,qq 40 (yb .neq (Y 39) (ki 0))]) (yd (Y 40) (Z (yr [qm 41 11,qq 4 (.mv (yc (S []))),qm 5 41]) .ret) yk)) (Z (yr [qm 42 0,qm 43 9,qq 44 (.nck (Y 42)),qq 45 (.fad 3 (Y 44)),qn (.st 1 (Y 45) (Y 43))]) (Z (yr [qq 4 (.mv (yc (S [111,107]))),qq 5 (.mv (ki 0))]) .ret)))))))
theorem vcol_spec (rest:Str) (hl:rest.length≤1000000) (hl2:∀ c∈l,c.name.length≤100000000000) (hlt:(textM l).length≤100000000) (hll:l.length≤1000000) (hS:Sep w0 w (boxC g 55 [U d.dl,U d.q,I d.e,lv,.map (some r)] :: mapC r S m :: accC lv 121 eC l :: M)) :
 Ret Tryz.prog 46 #[(.pointer (some ⟨g,0,none⟩)),S rest] w fun v w'=>match colK l rest with
  | .error e=>v=.tuple #[S [],I e]∧Sep w0 w' (boxC g 55 [U d.dl,U d.q,I d.e,lv,.map (some r)] :: mapC r S m :: accC lv 121 eC l :: M)
  | .ok l'=>v=.tuple #[S [111,107],I 0]∧∃ lv',Sep w0 w' (boxC g 55 [U d.dl,U d.q,I d.e,lv',.map (some r)] :: mapC r S m :: accC lv' 121 eC l' :: M):=by
 refine En 46 c46 Tryz.func46 ?_
 unfold colK
 have hps:=fun (a:Str) (ha:a.length≤100000000) w=>sparse_spec (a++rest++[10]) w (by simp only [List.length_append,List.length_cons,List.length_nil];omega)
 have htx:=fun w (hr:Rd w eC lv l)=>text_spec hr hl2 zo
 by_cases h0:l.length=0
 ·have ha:ahM l=([],0):=by unfold ahM;rw [if_pos h0]
  rw [ha]
  dsimp only
  have h00:(l.length:Int)=0:=by omega
  have hq:=hps ([]:Str) ze
  clear hps
  generalize prsM (([]:Str)++rest++[10])=p at *
  by_cases hp:p.2.2=0
  ·(have fct:=(aI @hp @h00);repeat' (first|refine G.reg fun K hK=>?_|(refine kM ?_;clear hK K)|refine sA ?_|((with_reducible refine gSt ?_);refine zs2 ?_;intro wb hS)|(refine zcp 63 (htx _ (Sep.rd hS zr)) ?_;intro wb hS)|(refine zco 64 (hq _) ?_;rintro vb wb ⟨lv2,rfl,hS2⟩;have hS:=hS2.ap;simp only [apps] at hS)|(refine G.cn ?_ ?_<;>intro hc<;>try exact zxf)))<;>(try clear fct)
   all_goals
    refine rM ?_
    simp only [hp,ne_eq,not_true_eq_false,if_false]
    first|exact ⟨lv2,(Sep.sub hS zw)⟩|exact ⟨rfl,lv2,(Sep.sub hS zw)⟩
  ·repeat' (first|refine G.reg fun K hK=>?_|(refine kM ?_;clear hK K)|refine sA ?_|((with_reducible refine gSt ?_);refine zs2 ?_;intro wb hS)|(refine zcp 63 (htx _ (Sep.rd hS zr)) ?_;intro wb hS)|(refine zco 64 (hq _) ?_;rintro vb wb ⟨lv2,rfl,hS2⟩;have hS:=hS2.ap;simp only [apps] at hS)|(refine G.cn ?_ ?_<;>intro hc<;>try exact zxf))
   all_goals
    refine rM ?_
    simp only [hp,ne_eq,not_true_eq_false,not_false_eq_true,if_true,if_false]
    first|exact ⟨trivial,(Sep.sub hS zw)⟩|exact (Sep.sub hS zw)|exact ⟨rfl,(Sep.sub hS zw)⟩
 ·have ha:ahM l=(if (checkM (l.map nkC)).2=0 then textM l else [],(checkM (l.map nkC)).2):=by unfold ahM;rw [if_neg h0]
  rw [ha]
  dsimp only
  by_cases hc:(checkM (l.map nkC)).2=0
  ·rw [hc] at htx ⊢
   simp only [if_true] at htx ⊢
   generalize textM l=tx at *
   have hq:=hps tx hlt
   clear hps
   generalize prsM (tx++rest++[10])=p at *
   by_cases hp:p.2.2=0
   ·(have fct:=@hp;repeat' (first|refine G.reg fun K hK=>?_|(refine kM ?_;clear hK K)|refine sA ?_|((with_reducible refine gSt ?_);refine zs2 ?_;intro wb hS)|(refine zcp 63 (htx _ (Sep.rd hS zr)) ?_;intro wb hS)|(refine zco 64 (hq _) ?_;rintro vb wb ⟨lv2,rfl,hS2⟩;have hS:=hS2.ap;simp only [apps] at hS)|(refine G.cn ?_ ?_<;>intro hc<;>try exact zxf)))<;>(try clear fct)
    all_goals
     refine rM ?_
     simp only [hp,ne_eq,not_true_eq_false,if_false]
     first|exact ⟨lv2,(Sep.sub hS zw)⟩|exact ⟨rfl,lv2,(Sep.sub hS zw)⟩
   ·repeat' (first|refine G.reg fun K hK=>?_|(refine kM ?_;clear hK K)|refine sA ?_|((with_reducible refine gSt ?_);refine zs2 ?_;intro wb hS)|(refine zcp 63 (htx _ (Sep.rd hS zr)) ?_;intro wb hS)|(refine zco 64 (hq _) ?_;rintro vb wb ⟨lv2,rfl,hS2⟩;have hS:=hS2.ap;simp only [apps] at hS)|(refine G.cn ?_ ?_<;>intro hc<;>try exact zxf))
    all_goals
     refine rM ?_
     simp only [hp,ne_eq,not_true_eq_false,not_false_eq_true,if_true,if_false]
     first|exact ⟨trivial,(Sep.sub hS zw)⟩|exact (Sep.sub hS zw)|exact ⟨rfl,(Sep.sub hS zw)⟩
  ·simp only [if_neg hc] at htx ⊢
   generalize (checkM (l.map nkC)).2=e at *
   repeat' (first|refine G.reg fun K hK=>?_|(refine kM ?_;clear hK K)|refine sA ?_|((with_reducible refine gSt ?_);refine zs2 ?_;intro wb hS)|(refine zcp 63 (htx _ (Sep.rd hS zr)) ?_;intro wb hS)|(refine G.cn ?_ ?_<;>intro hc<;>try exact zxf))
   all_goals
    refine rM ?_
    simp only [hc,ne_eq,not_false_eq_true,if_true]
    first|exact ⟨trivial,(Sep.sub hS zw)⟩|exact (Sep.sub hS zw)|exact ⟨rfl,(Sep.sub hS zw)⟩
end
end Go.Proofs.YtllanbmpacgigaaGreatDoor
