/- Texts of the proof, joined. -/
import Derived.Test.YtjajihaeoolefaaGreatDoorBP20
import Derived.Test.YtjajihaeoolefaaGreatDoorBP15
namespace Go.Proofs.YtjajihaeoolefaaGreatDoor
open Nat renaming reduceAdd→zq1,reduceLeDiff→zq2,reduceEqDiff→zq3,reduceLT→zq4
open Int renaming reduceToNat→zq5
set_option linter.unusedSimpArgs false
set_option linter.unusedVariables false
attribute [local irreducible] SemK UnitK StK AlcK BslK CallK CallV Instr.box Builtin.append_ Instr.makeSlice Instr.makeMap Instr.lookup Instr.mapUpdate Instr.sliceAt convert
open Go.RowKit
def fewC (l:List Col):Bool:=l.all (fun c=>decide (c.name.length≤40)) && decide (l.length≤12)
theorem fall_step {α:Type} [Inhabited α] (p:α→Bool) (l:List α) (k:Nat) (h:(k:Int) < l.length):(l.drop k).all p=(p (l.getD k default) && (l.drop (k+1)).all p):=by
  rw [dropD _ _ h,List.all_cons]
theorem fewC_len {l:List Col} (h:fewC l=true):l.length≤12∧∀ c∈l,c.name.length≤40:=by
  unfold fewC at h
  rw [Bool.and_eq_true,decide_eq_true_eq,List.all_eq_true] at h
  exact ⟨h.2,fun c hc=>of_decide_eq_true (h.1 c hc)⟩
def c44l1:MC:=(.seq (.reg [qq 8 (.bin .lss (.tmp 7) (.tmp 6))]) (.seq (.cond (.tmp 8) .skip (.exit 0)) (.seq (.blk 1 (.seq (.reg [qq 9 (.adr 3 (.tmp 5) (.tmp 7)),qq 10 (.ld (.some 3) (.tmp 9)),qq 4 (.alc 74 [(S []),(.int .i64 0),(.bool false)]),qn (.st 3 (.tmp 4) (.tmp 10))]) (.seq (.reg [qq 11 (.fad 0 (.tmp 4)),qq 12 (.ld none (.tmp 11)),qq 13 (.lenS (.tmp 12)),qq 14 (.bin .gtr (.tmp 13) (ki 40))]) (.cond (.tmp 14) (.seq (.reg [qq 2 (.mv (kb false))]) .ret) .skip)))) (.reg [qq 15 (.bin .add (.tmp 7) (ki 1)),qm 7 15]))))
def c44:MC:=(.seq (.reg [qq 2 (.mv (kb false))]) (.seq (.seq (.reg [qm 5 0,qq 6 (.len (.tmp 5)),qq 7 (.mv (ki 0))]) (.blk 0 (.loop c44l1))) (.seq (.reg [qm 16 0,qq 17 (.len (.tmp 16)),qq 18 (.bin .leq (.tmp 17) (ki 12)),qm 2 18]) .ret)))
theorem k44:conv Tryz.prog 19 (Tryz.f44.body.getD .skip)=c44:=by kernel_rfl
theorem in44 {a0:Value} {w:World} {R:Value→World→Prop} (h:G Tryz.prog Tryz.f44 19 [.c c44] R (frL 0 [a0]) w):Ret Tryz.prog 44 #[a0] w R:=G.enter (args:=[a0]) Tryz.func44 (c:=Tryz.f44.body.getD .skip) (by kernel_rfl) (by kernel_rfl) (by simp) k44 h
theorem few20_spec {va:Value} {t:List Col} {w:World} (h1:Rd w eC va t):Pu Tryz.prog 44 #[va] w (.bool (fewC t)):=by
  refine in44 ?_
  have hS:=Sep.start w
  have hbd:=h1.bd
  repeat' (first|((with_reducible apply G.a);exact rfl)|refine G.reg fun K hK=>?_|(with_reducible (refine hK _ _ ?_);clear hK K)|(have hk:=hK;clear hk;simp (disch:=first|exact dis|fail) only [push_cast,↓reduceIte,zq1,zq2,zq3,zq4,zq5,fct])|(refine zalc ?_;intro gb wb hS)|((with_reducible refine gSt ?_);refine zs2 ?_;intro wb hS)|(refine G.cn ?_ ?_<;>intro hc<;>first|(with_reducible exact False.elim hc)|(exfalso;omega)|skip))
  refine G.loop (fun r w'=>∃ k:Nat,k≤t.length∧r 7=I k∧r 6=I t.length∧r 5=va∧r 0=va∧(t.drop k).all (fun c=>decide (c.name.length≤40))=t.all (fun c=>decide (c.name.length≤40))∧Sep w w' []) (fun r _=>t.length - toN (r 7)) ?_ ?_
  · exact ⟨0,Nat.zero_le _,by exact sf,by exact sf,by exact sf,by exact sf,rfl,hS⟩
  · clear hS
    rintro u wl ⟨k,hk,q7,q6,q5,q0,e,hS⟩ ih
    have hm:toN (u 7)=k:=by rw [q7];simp [toN]
    by_cases hlt:(k:Int) < t.length
    · have hst:=fall_step (fun c:Col=>decide (c.name.length≤40)) t k hlt
      rw [e] at hst
      generalize hc:t.getD k default=c at *
      by_cases h40:(c.name.length:Int)≤40
      · rw [decide_eq_true (show c.name.length≤40 by omega),Bool.true_and] at hst
        (have fct:=(And.intro @q7 (And.intro @q6 (And.intro @q5 (And.intro @q0 @hc))));repeat' (first|((with_reducible apply G.a);exact rfl)|refine G.reg fun K hK=>?_|(with_reducible (refine hK _ _ ?_);clear hK K)|(have hk:=hK;clear hk;simp (disch:=first|exact dis|fail) only [push_cast,↓reduceIte,zq1,zq2,zq3,zq4,zq5,fct])|(refine zalc ?_;intro gb wb hS)|((with_reducible refine gSt ?_);refine zs2 ?_;intro wb hS)|(refine G.cn ?_ ?_<;>intro hc<;>first|(with_reducible exact False.elim hc)|(exfalso;omega)|skip)))<;>(try clear fct)
        all_goals
          have fct:=(And.intro @q7 (And.intro @q6 (And.intro @q5 @q0)));refine ih _ _ ⟨k+1,by omega,by exact sf,by exact sf,by exact sf,by exact sf,hst.symm,(Sep.sub hS (by repeat first|exact Sub.rfl'|exact Sub.n|exact Sub.nil0|(refine Sub.c (by repeat constructor) ?_)|refine Sub.skip ?_))⟩ ?_
          rw [hm];simp only [push_cast,↓reduceIte,zq1,zq2,zq3,zq4,zq5,toN_i,q7,q6,q5,q0];omega
      · rw [decide_eq_false (show ¬ c.name.length≤40 by omega),Bool.false_and] at hst
        (have fct:=(And.intro @q7 (And.intro @q6 (And.intro @q5 (And.intro @q0 @hc))));repeat' (first|((with_reducible apply G.a);exact rfl)|refine G.reg fun K hK=>?_|(with_reducible (refine hK _ _ ?_);clear hK K)|(have hk:=hK;clear hk;simp (disch:=first|exact dis|fail) only [push_cast,↓reduceIte,zq1,zq2,zq3,zq4,zq5,fct])|(refine zalc ?_;intro gb wb hS)|((with_reducible refine gSt ?_);refine zs2 ?_;intro wb hS)|(refine G.cn ?_ ?_<;>intro hc<;>first|(with_reducible exact False.elim hc)|(exfalso;omega)|skip)))<;>(try clear fct)
        all_goals
          (have fct:=(And.intro @q7 (And.intro @q6 (And.intro @q5 @q0)));(first|refine G.r1 ?_|refine G.r2 ?_|refine G.r3 ?_|refine G.r0 ?_|refine G.d0 ?_);(try simp (disch:=first|exact dis|fail) only [push_cast,↓reduceIte,zq1,zq2,zq3,zq4,zq5,fct]);(try clear fct))
          exact ⟨by unfold fewC;rw [hst];rfl,Sep.xt (by assumption)⟩
    · rw [List.drop_eq_nil_of_le (by omega)] at e
      (have fct:=(And.intro @q7 (And.intro @q6 (And.intro @q5 @q0)));repeat' (first|((with_reducible apply G.a);exact rfl)|refine G.reg fun K hK=>?_|(with_reducible (refine hK _ _ ?_);clear hK K)|(have hk:=hK;clear hk;simp (disch:=first|exact dis|fail) only [push_cast,↓reduceIte,zq1,zq2,zq3,zq4,zq5,fct])|(refine zalc ?_;intro gb wb hS)|((with_reducible refine gSt ?_);refine zs2 ?_;intro wb hS)|(refine G.cn ?_ ?_<;>intro hc<;>first|(with_reducible exact False.elim hc)|(exfalso;omega)|skip)))<;>(try clear fct)
      all_goals
        (have fct:=(And.intro @q7 (And.intro @q6 (And.intro @q5 @q0)));(first|refine G.r1 ?_|refine G.r2 ?_|refine G.r3 ?_|refine G.r0 ?_|refine G.d0 ?_);(try simp (disch:=first|exact dis|fail) only [push_cast,↓reduceIte,zq1,zq2,zq3,zq4,zq5,fct]);(try clear fct))
        refine ⟨?_,Sep.xt (by assumption)⟩
        unfold fewC
        rw [←e,List.all_nil,Bool.true_and]
        refine congrArg Value.bool ?_
        rw [Bool.eq_iff_iff,decide_eq_true_iff,decide_eq_true_iff]
        omega
end Go.Proofs.YtjajihaeoolefaaGreatDoor
