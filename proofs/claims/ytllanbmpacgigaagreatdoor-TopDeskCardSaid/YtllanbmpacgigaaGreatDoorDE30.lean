/- Texts of the proof, joined. -/
import Derived.Test.YtllanbmpacgigaaGreatDoorDW15
import Derived.Test.YtllanbmpacgigaaGreatDoorDW16
namespace Go.Proofs.YtllanbmpacgigaaGreatDoor
open Nat renaming reduceAdd→zq1,reduceLeDiff→zq2,reduceEqDiff→zq3,reduceLT→zq4
open Int renaming reduceToNat→zq5
set_option linter.unusedSimpArgs false
set_option linter.unusedVariables false
attribute [local irreducible] SemK UnitK StK AlcK BslK CallK CallV Instr.box Builtin.append_ Instr.makeSlice Instr.makeMap Instr.lookup Instr.mapUpdate Instr.sliceAt convert
open Go.RowKit
def nmB (b:UInt8):Bool:=decide ((97≤(b.toNat:Int)∧(b.toNat:Int)≤122)∨(48≤(b.toNat:Int)∧(b.toNat:Int)≤57))
def nmM (s:Str):Bool:=decide (1≤s.length∧s.length≤20) && s.all nmB
def nuM (s:Str):Option Nat:=if (pnM s).2=0∧0≤(pnM s).1 then some (pnM s).1.toNat else none
def c65l1:MC:=(.seq (.seq (.reg [qm 12 3,qm 13 0,qq 14 (.lenS (.tmp 13)),qq 15 (.bin .lss (.tmp 12) (.tmp 14))]) (.cond (.tmp 15) .skip (.exit 0))) (.seq (.blk 1 (.seq (.reg [qm 18 0,qm 19 3,qq 20 (.idxS (.tmp 18) (.tmp 19)),qq 21 (.bin .lss (.tmp 20) (.const (.int .u8 97))),qm 22 21,qmf 22 23 0,qmf 22 24 3,qf 22 25 (.idxS (.tmp 23) (.tmp 24)),qf 22 26 (.bin .gtr (.tmp 25) (.const (.int .u8 122))),qq 27 (.pick (.tmp 22) (kb true) (.tmp 26)),qm 28 27,qmt 28 29 0,qmt 28 30 3,qt 28 31 (.idxS (.tmp 29) (.tmp 30)),qt 28 32 (.bin .lss (.tmp 31) (.const (.int .u8 48))),qmt 28 33 32,qmf 33 34 0,qmf 33 35 3,qf 33 36 (.idxS (.tmp 34) (.tmp 35)),qf 33 37 (.bin .gtr (.tmp 36) (.const (.int .u8 57))),qt 28 38 (.pick (.tmp 33) (kb true) (.tmp 37)),qq 39 (.pick (.tmp 28) (.tmp 38) (kb false))]) (.cond (.tmp 39) (.seq (.reg [qq 2 (.mv (kb false))]) .ret) .skip))) (.reg [qm 16 3,qq 17 (.bin .add (.tmp 16) (ki 1)),qm 3 17])))
def c65:MC:=(.seq (.reg [qq 2 (.mv (kb false))]) (.seq (.seq (.reg [qm 4 0,qq 5 (.lenS (.tmp 4)),qq 6 (.bin .lss (.tmp 5) (ki 1)),qm 7 6,qmf 7 8 0,qf 7 9 (.lenS (.tmp 8)),qf 7 10 (.bin .gtr (.tmp 9) (ki 20)),qq 11 (.pick (.tmp 7) (kb true) (.tmp 10))]) (.cond (.tmp 11) (.seq (.reg [qq 2 (.mv (kb false))]) .ret) .skip)) (.seq (.seq (.reg [qq 3 (.mv (ki 0))]) (.blk 0 (.loop c65l1))) (.seq (.reg [qq 2 (.mv (kb true))]) .ret))))
theorem k65:conv Tryz.prog 40 (Tryz.f65.body.getD .skip)=c65:=by kernel_rfl
theorem in65 {a0:Value} {w:World} {R:Value→World→Prop} (h:G Tryz.prog Tryz.f65 40 [.c c65] R (frL 0 [a0]) w):Ret Tryz.prog 65 #[a0] w R:=G.enter (args:=[a0]) Tryz.func65 (c:=Tryz.f65.body.getD .skip) (by kernel_rfl) (by kernel_rfl) (by simp) k65 h
theorem lnamed_spec (s:Str) (w:World) (hl:s.length≤100000000000):Pu Tryz.prog 65 #[S s] w (.bool (nmM s)):=by
  refine in65 ?_
  have hS:=Sep.start w
  unfold nmM
  by_cases hn:1≤s.length∧s.length≤20
  · rw [decide_eq_true hn,Bool.true_and]
    repeat' (first|((with_reducible apply G.a);exact rfl)|refine G.reg fun K hK=>?_|(with_reducible (refine hK _ _ ?_);clear hK K)|(have hk:=hK;clear hk;simp (disch:=first|exact dis|fail) only [push_cast,↓reduceIte,zq1,zq2,zq3,zq4,zq5,fct])|(refine brO_n ?_ ?_<;>intro hb hc<;>first|(with_reducible exact False.elim hc)|(exfalso;omega)|(simp only [hb];clear hb))|(refine G.cn ?_ ?_<;>intro hc<;>first|(with_reducible exact False.elim hc)|(exfalso;omega)|skip))
    refine G.loop (fun r w'=>∃ k:Nat,k≤s.length∧r 3=I k∧r 0=S s∧s.all nmB=(s.drop k).all nmB∧Sep w w' []) (fun r _=>s.length - toN (r 3)) ?_ ?_
    · refine ⟨0,?_⟩
      ((repeat' apply And.intro)<;>first|exact dj|(simp only [push_cast,↓reduceIte,zq1,zq2,zq3,zq4,zq5]<;>omega)|skip)
    · clear hS
      rintro u wl ⟨k,hk,h3,h0,e,hS⟩ ih
      by_cases hlt:(k:Int) < s.length
      · rw [dropB s k hlt,List.all_cons] at e
        (have fct:=(And.intro @h3 @h0);repeat' (first|((with_reducible apply G.a);exact rfl)|refine G.reg fun K hK=>?_|(with_reducible (refine hK _ _ ?_);clear hK K)|(have hk:=hK;clear hk;simp (disch:=first|exact dis|fail) only [push_cast,↓reduceIte,zq1,zq2,zq3,zq4,zq5,fct])|(refine brO_n ?_ ?_<;>intro hb hc<;>first|(with_reducible exact False.elim hc)|(exfalso;omega)|(simp only [hb];clear hb))|(refine G.cn ?_ ?_<;>intro hc<;>first|(with_reducible exact False.elim hc)|(exfalso;omega)|skip)))<;>(try clear fct)
        all_goals first
          | (rw [show nmB (s.getD k 0)=true by unfold nmB;rw [decide_eq_true_iff];omega,Bool.true_and] at e
             (refine ih _ _ ⟨k+1,?_⟩ ?_;rotate_left;(focus ((simp only [push_cast,↓reduceIte,zq1,zq2,zq3,zq4,zq5,toN_i,h3,h0]<;>omega)));((repeat' apply And.intro)<;>first|exact dj|(simp only [push_cast,↓reduceIte,zq1,zq2,zq3,zq4,zq5,h3,h0]<;>omega)|skip))
             done)
          | (rw [show nmB (s.getD k 0)=false by unfold nmB;rw [decide_eq_false_iff_not];omega,Bool.false_and] at e
             (have fct:=(And.intro @h3 (And.intro @h0 @e));(first|refine G.r1 ?_|refine G.r2 ?_|refine G.r3 ?_|refine G.r0 ?_|refine G.d0 ?_);(try simp (disch:=first|exact dis|fail) only [push_cast,↓reduceIte,zq1,zq2,zq3,zq4,zq5,fct]);(try clear fct))
             (first|exact Sep.xt (by assumption)|exact ⟨rfl,Sep.xt (by assumption)⟩))
      · rw [List.drop_eq_nil_of_le (by omega)] at e
        have e2:s.all nmB=true:=e
        (have fct:=(And.intro @h3 @h0);repeat' (first|((with_reducible apply G.a);exact rfl)|refine G.reg fun K hK=>?_|(with_reducible (refine hK _ _ ?_);clear hK K)|(have hk:=hK;clear hk;simp (disch:=first|exact dis|fail) only [push_cast,↓reduceIte,zq1,zq2,zq3,zq4,zq5,fct])|(refine brO_n ?_ ?_<;>intro hb hc<;>first|(with_reducible exact False.elim hc)|(exfalso;omega)|(simp only [hb];clear hb))|(refine G.cn ?_ ?_<;>intro hc<;>first|(with_reducible exact False.elim hc)|(exfalso;omega)|skip)))<;>(try clear fct)
        (have fct:=(And.intro @h3 (And.intro @h0 @e2));(first|refine G.r1 ?_|refine G.r2 ?_|refine G.r3 ?_|refine G.r0 ?_|refine G.d0 ?_);(try simp (disch:=first|exact dis|fail) only [push_cast,↓reduceIte,zq1,zq2,zq3,zq4,zq5,fct]);(try clear fct))
        (first|exact Sep.xt (by assumption)|exact ⟨rfl,Sep.xt (by assumption)⟩)
  · rw [decide_eq_false hn,Bool.false_and]
    repeat' (first|((with_reducible apply G.a);exact rfl)|refine G.reg fun K hK=>?_|(with_reducible (refine hK _ _ ?_);clear hK K)|(have hk:=hK;clear hk;simp (disch:=first|exact dis|fail) only [push_cast,↓reduceIte,zq1,zq2,zq3,zq4,zq5,fct])|(refine brO_n ?_ ?_<;>intro hb hc<;>first|(with_reducible exact False.elim hc)|(exfalso;omega)|(simp only [hb];clear hb))|(refine G.cn ?_ ?_<;>intro hc<;>first|(with_reducible exact False.elim hc)|(exfalso;omega)|skip))
    all_goals
      (first|refine G.r1 ?_|refine G.r2 ?_|refine G.r3 ?_|refine G.r0 ?_|refine G.d0 ?_);(try simp (disch:=first|exact dis|fail) only [push_cast,↓reduceIte,zq1,zq2,zq3,zq4,zq5,fct])
      (first|exact Sep.xt (by assumption)|exact ⟨rfl,Sep.xt (by assumption)⟩)
def c66:MC:=(.seq (.reg [qq 2 (.mv (ki 0)),qq 3 (.mv (kb false))]) (.seq (.reg [qm 7 0,qq 8 (.call 100 [(.tmp 7)]),qm 6 8,qq 9 (.ext 0 (.tmp 6)),qq 10 (.ext 1 (.tmp 6)),qm 4 9,qm 5 10]) (.seq (.seq (.reg [qm 11 5,qq 12 (.bin .neq (.tmp 11) (ki 0)),qm 13 12,qmf 13 14 4,qf 13 15 (.bin .lss (.tmp 14) (ki 0)),qq 16 (.pick (.tmp 13) (kb true) (.tmp 15))]) (.cond (.tmp 16) (.seq (.reg [qq 2 (.mv (ki 0)),qq 3 (.mv (kb false))]) .ret) .skip)) (.seq (.reg [qm 17 4,qm 2 17,qq 3 (.mv (kb true))]) .ret))))
theorem k66:conv Tryz.prog 18 (Tryz.f66.body.getD .skip)=c66:=by kernel_rfl
theorem in66 {a0:Value} {w:World} {R:Value→World→Prop} (h:G Tryz.prog Tryz.f66 18 [.c c66] R (frL 0 [a0]) w):Ret Tryz.prog 66 #[a0] w R:=G.enter (args:=[a0]) Tryz.func66 (c:=Tryz.f66.body.getD .skip) (by kernel_rfl) (by kernel_rfl) (by simp) k66 h
theorem number_spec (s:Str) (w:World) (hl:s.length≤1000000) (hv:ErrV w):Pu Tryz.prog 66 #[S s] w (.tuple #[I ((nuM s).getD 0),.bool (nuM s).isSome]):=by
  refine in66 ?_
  have hS:=Sep.start w
  unfold nuM
  repeat' (first|((with_reducible apply G.a);exact rfl)|refine G.reg fun K hK=>?_|(with_reducible (refine hK _ _ ?_);clear hK K)|(have hk:=hK;clear hk;simp (disch:=first|exact dis|fail) only [push_cast,↓reduceIte,zq1,zq2,zq3,zq4,zq5,fct])|(refine brO_n ?_ ?_<;>intro hb hc<;>first|(with_reducible exact False.elim hc)|(exfalso;omega)|(simp only [hb];clear hb))|(refine zcp 100 (parse16_spec s _ hl (hv.ext (Sep.xt (by assumption)))) ?_;intro wb hS)|(refine G.cn ?_ ?_<;>intro hc<;>first|(with_reducible exact False.elim hc)|(exfalso;omega)|skip))
  all_goals
    (first|refine G.r1 ?_|refine G.r2 ?_|refine G.r3 ?_|refine G.r0 ?_|refine G.d0 ?_);(try simp (disch:=first|exact dis|fail) only [push_cast,↓reduceIte,zq1,zq2,zq3,zq4,zq5,fct])
    first
      | (rw [if_pos (by omega)];refine ⟨?_,Sep.xt (by assumption)⟩;simp only [Option.getD_some,Option.isSome_some];rw [Int.toNat_of_nonneg (by omega)])
      | (rw [if_neg (by omega)];(first|exact Sep.xt (by assumption)|exact ⟨rfl,Sep.xt (by assumption)⟩))
end Go.Proofs.YtllanbmpacgigaaGreatDoor
