/- Texts of the proof, joined. -/
import Derived.Test.YtllanbmpacgigaaGreatDoorDI30
import Derived.Test.YtllanbmpacgigaaGreatDoorDDp
namespace Go.Proofs.YtllanbmpacgigaaGreatDoor
open Nat renaming reduceAdd→zq1,reduceLeDiff→zq2,reduceEqDiff→zq3,reduceLT→zq4
open Int renaming reduceToNat→zq5
set_option linter.unusedSimpArgs false
set_option linter.unusedVariables false
attribute [local irreducible] SemK UnitK StK AlcK BslK CallK CallV Instr.box Builtin.append_ Instr.makeSlice Instr.makeMap Instr.lookup Instr.mapUpdate Instr.sliceAt convert
open Go.RowKit
section
variable {g r:Nat} {d d':Dl} {lv:Value} {m:Str→Option Str} {M:List Chk} {w w0:World}
def c45:MC:=(.seq (.reg [qq 4 (.mv (.const (S []))),qq 5 (.mv (ki 0))]) (.seq (.reg [qm 9 1,qq 10 (.call 62 [(.tmp 9)]),qm 8 10,qq 11 (.ext 0 (.tmp 8)),qq 12 (.ext 1 (.tmp 8)),qq 6 (.alc 39 [(.int .u8 0),(.int .u8 0),(.int .i64 0)]),qn (.st 3 (.tmp 6) (.tmp 11)),qm 7 12]) (.seq (.seq (.reg [qm 13 7,qq 14 (.bin .neq (.tmp 13) (ki 0))]) (.cond (.tmp 14) (.seq (.reg [qm 15 7,qq 4 (.mv (.const (S []))),qm 5 15]) .ret) .skip)) (.seq (.reg [qm 16 0,qq 17 (.ld (.some 3) (.tmp 6)),qq 18 (.nck (.tmp 16)),qq 19 (.fad 0 (.tmp 18)),qn (.st 3 (.tmp 19) (.tmp 17))]) (.seq (.reg [qq 4 (.mv (.const (S [111,107]))),qq 5 (.mv (ki 0))]) .ret)))))
theorem k45:conv Tryz.prog 20 (Tryz.f45.body.getD .skip)=c45:=by kernel_rfl
theorem in45 {a0 a1:Value} {w:World} {R:Value→World→Prop} (h:G Tryz.prog Tryz.f45 20 [.c c45] R (frL 0 [a0,a1]) w):Ret Tryz.prog 45 #[a0,a1] w R:=G.enter (args:=[a0,a1]) Tryz.func45 (c:=Tryz.f45.body.getD .skip) (by kernel_rfl) (by kernel_rfl) (by simp) k45 h
theorem ddial_spec1 (s:Str) (hl:s.length≤1000000) (hp:dpM s=(d',0)) (hS:Sep w0 w (boxC g 55 [U d.dl,U d.q,I d.e,lv,.map (some r)] :: mapC r S m :: M)) :
    Ret Tryz.prog 45 #[(.pointer (some ⟨g,0,none⟩)),S s] w fun v w'=>v=.tuple #[S [111,107],I 0]∧Sep w0 w' (boxC g 55 [U d'.dl,U d'.q,I d'.e,lv,.map (some r)] :: mapC r S m :: M):=by
  refine in45 ?_
  have hdp:=fun w=>dparse_spec s w (by omega)
  rw [hp] at hdp
  dsimp only at hdp
  repeat' (first|((with_reducible apply G.a);exact rfl)|refine G.reg fun K hK=>?_|(with_reducible (refine hK _ _ ?_);clear hK K)|(have hk:=hK;clear hk;simp (disch:=first|exact dis|fail) only [push_cast,↓reduceIte,zq1,zq2,zq3,zq4,zq5,fct])|(refine zalc ?_;intro gb wb hS)|((with_reducible refine gSt ?_);refine zs2 ?_;intro wb hS)|(refine zcp 62 (hdp _) ?_;intro wb hS)|(refine G.cn ?_ ?_<;>intro hc<;>first|(with_reducible exact False.elim hc)|(exfalso;omega)|skip))
  all_goals
    (first|refine G.r1 ?_|refine G.r2 ?_|refine G.r3 ?_|refine G.r0 ?_|refine G.d0 ?_);(try simp (disch:=first|exact dis|fail) only [push_cast,↓reduceIte,zq1,zq2,zq3,zq4,zq5,fct])
    (first|exact (Sep.sub hS (by repeat first|exact Sub.rfl'|exact Sub.n|(refine Sub.c (by repeat constructor) ?_)|refine Sub.skip ?_))|exact ⟨rfl,(Sep.sub hS (by repeat first|exact Sub.rfl'|exact Sub.n|(refine Sub.c (by repeat constructor) ?_)|refine Sub.skip ?_))⟩)
theorem lnDial (hd':byD d') (hr':rightD d'=true) (hS:Sep w0 w (boxC g 55 [U d.dl,U d.q,I d.e,lv,.map (some r)] :: mapC r S m :: M)):Ret Tryz.prog 11 #[(.pointer (some ⟨g,0,none⟩)),S ([100,105,97,108,101,99,116,32]++txD d')] w fun v w'=>v=S [111,107]∧Sep w0 w' (boxC g 55 [U d'.dl,U d'.q,I d'.e,lv,.map (some r)] :: mapC r S m :: M):=by
  have hl:(txD d').length≤12:=by
    unfold txD wdE
    split
    · simp
    · split<;>simp
  exact Line_of _ ⟨by decide,by decide⟩ (.inl rfl) (fun w2 hS=>line_dialect _ (txD d') (by kernel_rfl) (by simp only [List.length_append,List.length_cons,List.length_nil];omega)
    (fun w3 hS=>ddial_spec1 _ (by omega) (dp_tx d' hd' hr') hS) hS) hS
end
end Go.Proofs.YtllanbmpacgigaaGreatDoor
