/- Texts of the proof, joined. -/
import Derived.Test.YtllanbmpacgigaaGreatDoorDP06
import Derived.Test.YtllanbmpacgigaaGreatDoorDR02
import Derived.Test.YtllanbmpacgigaaGreatDoorDW02
namespace Go.Proofs.YtllanbmpacgigaaGreatDoor
open Nat renaming reduceAdd→zq1,reduceLeDiff→zq2,reduceEqDiff→zq3,reduceLT→zq4
open Int renaming reduceToNat→zq5
set_option linter.unusedSimpArgs false
set_option linter.unusedVariables false
attribute [local irreducible] SemK UnitK StK AlcK BslK CallK CallV Instr.box Builtin.append_ Instr.makeSlice Instr.makeMap Instr.lookup Instr.mapUpdate Instr.sliceAt convert
open Go.RowKit
def mayB (b:Int):Bool:=decide (b < 128∧b≠13∧b≠10)
def endB (e:Int):Bool:=decide (e=1∨e=2∨e=3)
def rightD (d:Dl):Bool:=mayB d.dl && mayB d.q && !(decide (d.dl=d.q)) && endB d.e
def mayL (n:Int):Bool:=decide (1≤n∧n≤2147483648)
def fitsL (l:Lm):Bool:=mayL l.F && mayL l.N && mayL l.R
def byD (d:Dl):Prop:=0≤d.dl∧d.dl≤255∧0≤d.q∧d.q≤255
theorem mayB_t {b:Int} (h:b < 128) (h1:¬ b=13) (h2:¬ b=10):mayB b=true:=decide_eq_true ⟨h,h1,h2⟩
theorem mayB_f {b:Int} (h:¬ (b < 128∧b≠13∧b≠10)):mayB b=false:=decide_eq_false h
theorem mayL_t {b:Int} (h:1≤b) (h1:b≤2147483648):mayL b=true:=decide_eq_true ⟨h,h1⟩
theorem mayL_f {b:Int} (h:¬ (1≤b∧b≤2147483648)):mayL b=false:=decide_eq_false h
def c125:MC:=(.seq (.reg [qq 2 (.mv (kb false))]) (.seq (.reg [qm 3 0,qq 4 (.bin .lss (.tmp 3) (.const (.int .u8 128))),qm 5 4,qmt 5 6 0,qt 5 7 (.bin .neq (.tmp 6) (.const (.int .u8 13))),qq 8 (.pick (.tmp 5) (.tmp 7) (kb false)),qm 9 8,qmt 9 10 0,qt 9 11 (.bin .neq (.tmp 10) (.const (.int .u8 10))),qq 12 (.pick (.tmp 9) (.tmp 11) (kb false)),qm 2 12]) .ret))
theorem k125:conv Tryz.prog 13 (Tryz.f125.body.getD .skip)=c125:=by kernel_rfl
theorem in125 {a0:Value} {w:World} {R:Value→World→Prop} (h:G Tryz.prog Tryz.f125 13 [.c c125] R (frL 0 [a0]) w):Ret Tryz.prog 125 #[a0] w R:=G.enter (args:=[a0]) Tryz.func125 (c:=Tryz.f125.body.getD .skip) (by kernel_rfl) (by kernel_rfl) (by simp) k125 h
theorem mayPart_spec (b:Int) (w:World):Pu Tryz.prog 125 #[U b] w (.bool (mayB b)):=by
  refine in125 ?_
  have hS:=Sep.start w
  have hm:mayB b=(decide (b < 128) && (b != 13 && b != 10)):=by
    unfold mayB;rw [Bool.eq_iff_iff];simp [and_assoc]
  rw [hm]
  by_cases h1:b < 128<;>by_cases h2:b=13<;>by_cases h3:b=10<;>simp only [h1,h2,h3]<;>(try omega)
  all_goals
    (have fct:=(And.intro @h1 (And.intro @h2 @h3));repeat' (first|((with_reducible apply G.a);exact rfl)|refine G.reg fun K hK=>?_|(with_reducible (refine hK _ _ ?_);clear hK K)|(have hk:=hK;clear hk;simp (disch:=first|exact dis|fail) only [push_cast,↓reduceIte,zq1,zq2,zq3,zq4,zq5,fct])|(refine brO_n ?_ ?_<;>intro hb hc<;>first|(with_reducible exact False.elim hc)|(exfalso;omega)|(simp only [hb];clear hb))))<;>(try clear fct)
    all_goals
      (have fct:=(And.intro @h1 (And.intro @h2 @h3));(first|refine G.r1 ?_|refine G.r2 ?_|refine G.r3 ?_|refine G.r0 ?_|refine G.d0 ?_);(try simp (disch:=first|exact dis|fail) only [push_cast,↓reduceIte,zq1,zq2,zq3,zq4,zq5,fct]);(try clear fct))
      first|(first|exact Sep.xt (by assumption)|exact ⟨rfl,Sep.xt (by assumption)⟩)|(refine ⟨?_,Sep.xt (by assumption)⟩;simp_all)
def c126:MC:=(.seq (.reg [qq 2 (.mv (.const (S [])))]) (.seq (.seq (.reg [qm 3 0]) (.blk 0 (.seq (.reg [qq 5 (.bin .eql (.tmp 3) (ki 1)),qm 4 5]) (.cond (.tmp 4) (.seq (.reg [qq 2 (.mv (.const (S [108,102])))]) .ret) (.seq (.reg [qq 7 (.bin .eql (.tmp 3) (ki 2)),qm 6 7]) (.cond (.tmp 6) (.seq (.reg [qq 2 (.mv (.const (S [99,114,108,102])))]) .ret) (.seq (.reg [qq 9 (.bin .eql (.tmp 3) (ki 3)),qm 8 9]) (.cond (.tmp 8) (.seq (.reg [qq 2 (.mv (.const (S [101,105,116,104,101,114])))]) .ret) .skip)))))))) (.seq (.reg [qq 2 (.mv (.const (S [])))]) .ret)))
theorem k126:conv Tryz.prog 10 (Tryz.f126.body.getD .skip)=c126:=by kernel_rfl
theorem in126 {a0:Value} {w:World} {R:Value→World→Prop} (h:G Tryz.prog Tryz.f126 10 [.c c126] R (frL 0 [a0]) w):Ret Tryz.prog 126 #[a0] w R:=G.enter (args:=[a0]) Tryz.func126 (c:=Tryz.f126.body.getD .skip) (by kernel_rfl) (by kernel_rfl) (by simp) k126 h
theorem word_spec (e:Int) (w:World):Pu Tryz.prog 126 #[I e] w (S (if e=1 then [108,102] else if e=2 then [99,114,108,102] else if e=3 then [101,105,116,104,101,114] else [])):=by
  refine in126 ?_
  have hS:=Sep.start w
  by_cases h1:e=1
  · subst h1
    repeat' (first|((with_reducible apply G.a);exact rfl)|refine G.reg fun K hK=>?_|(with_reducible (refine hK _ _ ?_);clear hK K)|(have hk:=hK;clear hk;simp (disch:=first|exact dis|fail) only [push_cast,↓reduceIte,zq1,zq2,zq3,zq4,zq5,fct])|(refine G.cn ?_ ?_<;>intro hc<;>first|(with_reducible exact False.elim hc)|(exfalso;omega)|skip))
    all_goals
      (first|refine G.r1 ?_|refine G.r2 ?_|refine G.r3 ?_|refine G.r0 ?_|refine G.d0 ?_);(try simp (disch:=first|exact dis|fail) only [push_cast,↓reduceIte,zq1,zq2,zq3,zq4,zq5,fct])
      (first|exact Sep.xt (by assumption)|exact ⟨rfl,Sep.xt (by assumption)⟩)
  · by_cases h2:e=2
    · subst h2
      repeat' (first|((with_reducible apply G.a);exact rfl)|refine G.reg fun K hK=>?_|(with_reducible (refine hK _ _ ?_);clear hK K)|(have hk:=hK;clear hk;simp (disch:=first|exact dis|fail) only [push_cast,↓reduceIte,zq1,zq2,zq3,zq4,zq5,fct])|(refine G.cn ?_ ?_<;>intro hc<;>first|(with_reducible exact False.elim hc)|(exfalso;omega)|skip))
      all_goals
        (first|refine G.r1 ?_|refine G.r2 ?_|refine G.r3 ?_|refine G.r0 ?_|refine G.d0 ?_);(try simp (disch:=first|exact dis|fail) only [push_cast,↓reduceIte,zq1,zq2,zq3,zq4,zq5,fct])
        (first|exact Sep.xt (by assumption)|exact ⟨rfl,Sep.xt (by assumption)⟩)
    · by_cases h3:e=3
      · subst h3
        repeat' (first|((with_reducible apply G.a);exact rfl)|refine G.reg fun K hK=>?_|(with_reducible (refine hK _ _ ?_);clear hK K)|(have hk:=hK;clear hk;simp (disch:=first|exact dis|fail) only [push_cast,↓reduceIte,zq1,zq2,zq3,zq4,zq5,fct])|(refine G.cn ?_ ?_<;>intro hc<;>first|(with_reducible exact False.elim hc)|(exfalso;omega)|skip))
        all_goals
          (first|refine G.r1 ?_|refine G.r2 ?_|refine G.r3 ?_|refine G.r0 ?_|refine G.d0 ?_);(try simp (disch:=first|exact dis|fail) only [push_cast,↓reduceIte,zq1,zq2,zq3,zq4,zq5,fct])
          (first|exact Sep.xt (by assumption)|exact ⟨rfl,Sep.xt (by assumption)⟩)
      · rw [if_neg h1,if_neg h2,if_neg h3]
        repeat' (first|((with_reducible apply G.a);exact rfl)|refine G.reg fun K hK=>?_|(with_reducible (refine hK _ _ ?_);clear hK K)|(have hk:=hK;clear hk;simp (disch:=first|exact dis|fail) only [push_cast,↓reduceIte,zq1,zq2,zq3,zq4,zq5,fct])|(refine G.cn ?_ ?_<;>intro hc<;>first|(with_reducible exact False.elim hc)|(exfalso;omega)|skip))
        all_goals
          (first|refine G.r1 ?_|refine G.r2 ?_|refine G.r3 ?_|refine G.r0 ?_|refine G.d0 ?_);(try simp (disch:=first|exact dis|fail) only [push_cast,↓reduceIte,zq1,zq2,zq3,zq4,zq5,fct])
          (first|exact Sep.xt (by assumption)|exact ⟨rfl,Sep.xt (by assumption)⟩)
theorem word_nil (e:Int):((if e=1 then [108,102] else if e=2 then [99,114,108,102] else if e=3 then [101,105,116,104,101,114] else []) == ([]:Str))=!(endB e):=by
  unfold endB
  by_cases h1:e=1
  · subst h1;decide
  · by_cases h2:e=2
    · subst h2;decide
    · by_cases h3:e=3
      · subst h3;decide
      · simp [h1,h2,h3]
def c85:MC:=(.seq (.reg [qq 1 (.raw (.box 39 (.tmp 0)) 0),qq 2 (.mv (ki 0))]) (.seq (.seq (.reg [qq 3 (.fad 0 (.tmp 1)),qq 4 (.ld none (.tmp 3)),qq 5 (.call 125 [(.tmp 4)]),qq 6 (.un .not (.tmp 5)),qm 7 6,qf 7 8 (.fad 1 (.tmp 1)),qf 7 9 (.ld none (.tmp 8)),qf 7 10 (.call 125 [(.tmp 9)]),qf 7 11 (.un .not (.tmp 10)),qq 12 (.pick (.tmp 7) (kb true) (.tmp 11)),qm 13 12,qf 13 14 (.fad 0 (.tmp 1)),qf 13 15 (.ld none (.tmp 14)),qf 13 16 (.fad 1 (.tmp 1)),qf 13 17 (.ld none (.tmp 16)),qf 13 18 (.bin .eql (.tmp 15) (.tmp 17)),qq 19 (.pick (.tmp 13) (kb true) (.tmp 18)),qm 20 19,qf 20 21 (.fad 2 (.tmp 1)),qf 20 22 (.ld none (.tmp 21)),qf 20 23 (.call 126 [(.tmp 22)]),qf 20 24 (.bin .eql (.tmp 23) (.const (S []))),qq 25 (.pick (.tmp 20) (kb true) (.tmp 24))]) (.cond (.tmp 25) (.seq (.reg [qq 2 (.mv (ki 1))]) .ret) .skip)) (.seq (.reg [qq 2 (.mv (ki 0))]) .ret)))
theorem k85:conv Tryz.prog 26 (Tryz.f85.body.getD .skip)=c85:=by kernel_rfl
theorem in85 {a0:Value} {w:World} {R:Value→World→Prop} (h:G Tryz.prog Tryz.f85 26 [.c c85] R (frL 0 [a0]) w):Ret Tryz.prog 85 #[a0] w R:=G.enter (args:=[a0]) Tryz.func85 (c:=Tryz.f85.body.getD .skip) (by kernel_rfl) (by kernel_rfl) (by simp) k85 h
theorem checkD_spec (d:Dl) (w:World):Pu Tryz.prog 85 #[(.agg #[U d.dl,U d.q,I d.e])] w (I (if rightD d=true then 0 else 1)):=by
  refine in85 ?_
  have hS:=Sep.start w
  have hw:=word_nil d.e
  unfold rightD
  cases h1:mayB d.dl<;>cases h2:mayB d.q<;>cases h4:endB d.e<;>rw [h4] at hw<;>by_cases h3:d.dl=d.q
  all_goals
    (have fct:=(And.intro @h1 (And.intro @h2 (And.intro @h3 @hw)));repeat' (first|((with_reducible apply G.a);exact rfl)|refine G.reg fun K hK=>?_|(with_reducible (refine hK _ _ ?_);clear hK K)|(have hk:=hK;clear hk;simp (disch:=first|exact dis|fail) only [push_cast,↓reduceIte,zq1,zq2,zq3,zq4,zq5,fct])|(refine brO_n ?_ ?_<;>intro hb hc<;>first|(with_reducible exact False.elim hc)|(exfalso;omega)|(simp only [hb];clear hb))|(((with_reducible refine gBox ?_);refine zbox ?_);intro gb wb hS)|((with_reducible (show CallK _ 125 [U d.dl] _ _ _ _));refine zcp 125 (mayPart_spec d.dl _) ?_;intro wb hS)|(refine zcp 125 (mayPart_spec _ _) ?_;intro wb hS)|(refine zcp 126 (word_spec _ _) ?_;intro wb hS)|(refine G.cn ?_ ?_<;>intro hc<;>first|(with_reducible exact False.elim hc)|(exfalso;omega)|skip)))<;>(try clear fct)
    all_goals
      (first|refine G.r1 ?_|refine G.r2 ?_|refine G.r3 ?_|refine G.r0 ?_|refine G.d0 ?_);(try simp (disch:=first|exact dis|fail) only [push_cast,↓reduceIte,zq1,zq2,zq3,zq4,zq5,fct])
      first
        | (first|exact Sep.xt (by assumption)|exact ⟨rfl,Sep.xt (by assumption)⟩)
        | (simp only [h3,decide_true,decide_false,Bool.and_true,Bool.and_false,Bool.not_true,Bool.not_false,Bool.false_and,Bool.true_and,Bool.false_eq_true,if_true,if_false];(first|exact Sep.xt (by assumption)|exact ⟨rfl,Sep.xt (by assumption)⟩))
        | (exfalso;simp_all;done)
        | (refine ⟨?_,Sep.xt (by assumption)⟩;simp_all;done)
def c166:MC:=(.seq (.reg [qq 2 (.mv (kb false))]) (.seq (.reg [qm 3 0,qq 4 (.bin .geq (.tmp 3) (ki 1)),qm 5 4,qmt 5 6 0,qt 5 7 (.bin .leq (.tmp 6) (ki 2147483648)),qq 8 (.pick (.tmp 5) (.tmp 7) (kb false)),qm 2 8]) .ret))
theorem k166:conv Tryz.prog 9 (Tryz.f166.body.getD .skip)=c166:=by kernel_rfl
theorem in166 {a0:Value} {w:World} {R:Value→World→Prop} (h:G Tryz.prog Tryz.f166 9 [.c c166] R (frL 0 [a0]) w):Ret Tryz.prog 166 #[a0] w R:=G.enter (args:=[a0]) Tryz.func166 (c:=Tryz.f166.body.getD .skip) (by kernel_rfl) (by kernel_rfl) (by simp) k166 h
theorem mayLimit_spec (n:Int) (w:World):Pu Tryz.prog 166 #[I n] w (.bool (mayL n)):=by
  refine in166 ?_
  have hS:=Sep.start w
  by_cases h1:1≤n<;>by_cases h2:n≤2147483648
  all_goals
    first|rw [mayL_t h1 h2]|rw [mayL_f (by omega)]
    (have fct:=(And.intro @h1 @h2);repeat' (first|((with_reducible apply G.a);exact rfl)|refine G.reg fun K hK=>?_|(with_reducible (refine hK _ _ ?_);clear hK K)|(have hk:=hK;clear hk;simp (disch:=first|exact dis|fail) only [push_cast,↓reduceIte,zq1,zq2,zq3,zq4,zq5,fct])|(refine brO_n ?_ ?_<;>intro hb hc<;>first|(with_reducible exact False.elim hc)|(exfalso;omega)|(simp only [hb];clear hb))))<;>(try clear fct)
    all_goals
      (have fct:=(And.intro @h1 @h2);(first|refine G.r1 ?_|refine G.r2 ?_|refine G.r3 ?_|refine G.r0 ?_|refine G.d0 ?_);(try simp (disch:=first|exact dis|fail) only [push_cast,↓reduceIte,zq1,zq2,zq3,zq4,zq5,fct]);(try clear fct))
      (first|exact Sep.xt (by assumption)|exact ⟨rfl,Sep.xt (by assumption)⟩)
def c127:MC:=(.seq (.reg [qq 1 (.raw (.box 81 (.tmp 0)) 0),qq 2 (.mv (ki 0))]) (.seq (.seq (.reg [qq 3 (.fad 0 (.tmp 1)),qq 4 (.ld none (.tmp 3)),qq 5 (.call 166 [(.tmp 4)]),qq 6 (.un .not (.tmp 5)),qm 7 6,qf 7 8 (.fad 1 (.tmp 1)),qf 7 9 (.ld none (.tmp 8)),qf 7 10 (.call 166 [(.tmp 9)]),qf 7 11 (.un .not (.tmp 10)),qq 12 (.pick (.tmp 7) (kb true) (.tmp 11)),qm 13 12,qf 13 14 (.fad 2 (.tmp 1)),qf 13 15 (.ld none (.tmp 14)),qf 13 16 (.call 166 [(.tmp 15)]),qf 13 17 (.un .not (.tmp 16)),qq 18 (.pick (.tmp 13) (kb true) (.tmp 17))]) (.cond (.tmp 18) (.seq (.reg [qq 2 (.mv (ki 2))]) .ret) .skip)) (.seq (.reg [qq 2 (.mv (ki 0))]) .ret)))
theorem k127:conv Tryz.prog 19 (Tryz.f127.body.getD .skip)=c127:=by kernel_rfl
theorem in127 {a0:Value} {w:World} {R:Value→World→Prop} (h:G Tryz.prog Tryz.f127 19 [.c c127] R (frL 0 [a0]) w):Ret Tryz.prog 127 #[a0] w R:=G.enter (args:=[a0]) Tryz.func127 (c:=Tryz.f127.body.getD .skip) (by kernel_rfl) (by kernel_rfl) (by simp) k127 h
theorem checkL_spec (l:Lm) (w:World):Pu Tryz.prog 127 #[(.agg #[I l.F,I l.N,I l.R,.bool l.U])] w (I (if fitsL l=true then 0 else 2)):=by
  refine in127 ?_
  have hS:=Sep.start w
  unfold fitsL
  cases h1:mayL l.F<;>cases h2:mayL l.N<;>cases h3:mayL l.R
  all_goals
    (have fct:=(And.intro @h1 (And.intro @h2 @h3));repeat' (first|((with_reducible apply G.a);exact rfl)|refine G.reg fun K hK=>?_|(with_reducible (refine hK _ _ ?_);clear hK K)|(have hk:=hK;clear hk;simp (disch:=first|exact dis|fail) only [push_cast,↓reduceIte,zq1,zq2,zq3,zq4,zq5,fct])|(refine brO_n ?_ ?_<;>intro hb hc<;>first|(with_reducible exact False.elim hc)|(exfalso;omega)|(simp only [hb];clear hb))|(((with_reducible refine gBox ?_);refine zbox ?_);intro gb wb hS)|(refine zcp 166 (mayLimit_spec _ _) ?_;intro wb hS)|(refine G.cn ?_ ?_<;>intro hc<;>first|(with_reducible exact False.elim hc)|(exfalso;omega)|skip)))<;>(try clear fct)
    all_goals
      (first|refine G.r1 ?_|refine G.r2 ?_|refine G.r3 ?_|refine G.r0 ?_|refine G.d0 ?_);(try simp (disch:=first|exact dis|fail) only [push_cast,↓reduceIte,zq1,zq2,zq3,zq4,zq5,fct])
      first|(first|exact Sep.xt (by assumption)|exact ⟨rfl,Sep.xt (by assumption)⟩)|(exfalso;simp_all;done)
def c193:MC:=(.seq (.reg [qq 2 (.raw (.box 39 (.tmp 0)) 0),qq 4 (.mv (kb false))]) (.seq (.reg [qm 5 1,qq 6 (.bin .eql (.tmp 5) (.const (.int .u8 13))),qm 7 6,qt 7 8 (.fad 2 (.tmp 2)),qt 7 9 (.ld none (.tmp 8)),qt 7 10 (.bin .eql (.tmp 9) (ki 1)),qq 11 (.pick (.tmp 7) (.tmp 10) (kb false)),qm 12 11,qmf 12 13 1,qf 12 14 (.bin .eql (.tmp 13) (.const (.int .u8 10))),qmf 12 15 14,qt 15 16 (.fad 2 (.tmp 2)),qt 15 17 (.ld none (.tmp 16)),qt 15 18 (.bin .eql (.tmp 17) (ki 2)),qf 12 19 (.pick (.tmp 15) (.tmp 18) (kb false)),qq 20 (.pick (.tmp 12) (kb true) (.tmp 19)),qm 4 20]) .ret))
theorem k193:conv Tryz.prog 21 (Tryz.f193.body.getD .skip)=c193:=by kernel_rfl
theorem in193 {a0 a1:Value} {w:World} {R:Value→World→Prop} (h:G Tryz.prog Tryz.f193 21 [.c c193] R (frL 0 [a0,a1]) w):Ret Tryz.prog 193 #[a0,a1] w R:=G.enter (args:=[a0,a1]) Tryz.func193 (c:=Tryz.f193.body.getD .skip) (by kernel_rfl) (by kernel_rfl) (by simp) k193 h
theorem wrongEnd_spec (d:Dl) (b:Int) (w:World):Pu Tryz.prog 193 #[(.agg #[U d.dl,U d.q,I d.e]),U b] w (.bool (wrongE d b)):=by
  refine in193 ?_
  have hS:=Sep.start w
  unfold wrongE
  by_cases h1:b=13<;>by_cases h2:b=10<;>by_cases h3:d.e=1<;>by_cases h4:d.e=2<;>(try omega)
  all_goals
    have e1:(b == 13)=decide (b=13):=rfl
    (have fct:=(And.intro @h1 (And.intro @h2 (And.intro @h3 @h4)));repeat' (first|((with_reducible apply G.a);exact rfl)|refine G.reg fun K hK=>?_|(with_reducible (refine hK _ _ ?_);clear hK K)|(have hk:=hK;clear hk;simp (disch:=first|exact dis|fail) only [push_cast,↓reduceIte,zq1,zq2,zq3,zq4,zq5,fct])|(refine brO_n ?_ ?_<;>intro hb hc<;>first|(with_reducible exact False.elim hc)|(exfalso;omega)|(simp only [hb];clear hb))|(((with_reducible refine gBox ?_);refine zbox ?_);intro gb wb hS)))<;>(try clear fct)
    all_goals
      (have fct:=(And.intro @h1 (And.intro @h2 (And.intro @h3 @h4)));(first|refine G.r1 ?_|refine G.r2 ?_|refine G.r3 ?_|refine G.r0 ?_|refine G.d0 ?_);(try simp (disch:=first|exact dis|fail) only [push_cast,↓reduceIte,zq1,zq2,zq3,zq4,zq5,fct]);(try clear fct))
      first|(first|exact Sep.xt (by assumption)|exact ⟨rfl,Sep.xt (by assumption)⟩)|(refine ⟨?_,Sep.xt (by assumption)⟩;simp_all;done)
def c170:MC:=(.seq (.reg [qq 2 (.raw (.box 39 (.tmp 0)) 0),qq 4 (.alc 197 [(.bool false),(.bool false),(.bool false),(.bool false),(.bool false),(.int .u8 0)]),qq 5 (.mv (ki 0)),qq 6 (.mv (ki 0))]) (.seq (.blk 0 (.seq (.reg [qq 8 (.ld (.some 3) (.tmp 2)),qm 9 1,qq 10 (.call 193 [(.tmp 8),(.tmp 9)]),qm 7 10]) (.cond (.tmp 7) (.seq (.reg [qq 11 (.bld [(.bool false),(.bool false),(.bool false),(.bool false),(.bool false),(.int .u8 0)] []),qn (.st 6 (.tmp 4) (.tmp 11)),qq 5 (.mv (ki 0)),qq 6 (.mv (ki 6))]) .ret) (.seq (.reg [qm 13 1,qq 14 (.fad 1 (.tmp 2)),qq 15 (.ld none (.tmp 14)),qq 16 (.bin .eql (.tmp 13) (.tmp 15)),qm 12 16]) (.cond (.tmp 12) (.seq (.reg [qq 17 (.bld [(.bool false),(.bool false),(.bool false),(.bool false),(.bool false),(.int .u8 0)] [⟨0,⟨1,(kb true)⟩⟩]),qn (.st 6 (.tmp 4) (.tmp 17)),qq 5 (.mv (ki 3)),qq 6 (.mv (ki 0))]) .ret) (.seq (.reg [qm 19 1,qq 20 (.fad 0 (.tmp 2)),qq 21 (.ld none (.tmp 20)),qq 22 (.bin .eql (.tmp 19) (.tmp 21)),qm 18 22]) (.cond (.tmp 18) (.seq (.reg [qq 23 (.bld [(.bool false),(.bool false),(.bool false),(.bool false),(.bool false),(.int .u8 0)] [⟨0,⟨1,(kb true)⟩⟩,⟨2,⟨1,(kb true)⟩⟩]),qn (.st 6 (.tmp 4) (.tmp 23)),qq 5 (.mv (ki 1)),qq 6 (.mv (ki 0))]) .ret) (.seq (.reg [qm 25 1,qq 26 (.bin .eql (.tmp 25) (.const (.int .u8 13))),qm 24 26]) (.cond (.tmp 24) (.seq (.reg [qq 27 (.bld [(.bool false),(.bool false),(.bool false),(.bool false),(.bool false),(.int .u8 0)] []),qn (.st 6 (.tmp 4) (.tmp 27)),qq 5 (.mv (ki 6)),qq 6 (.mv (ki 0))]) .ret) (.seq (.reg [qm 29 1,qq 30 (.bin .eql (.tmp 29) (.const (.int .u8 10))),qm 28 30]) (.cond (.tmp 28) (.seq (.reg [qq 31 (.bld [(.bool false),(.bool false),(.bool false),(.bool false),(.bool false),(.int .u8 0)] []),qn (.st 6 (.tmp 4) (.tmp 31)),qq 5 (.mv (ki 0)),qq 6 (.mv (ki 0))]) .ret) .skip))))))))))) (.seq (.reg [qm 32 1,qq 33 (.bld [(.bool false),(.bool false),(.bool false),(.bool false),(.bool false),(.int .u8 0)] [⟨0,⟨1,(kb true)⟩⟩,⟨1,⟨1,(kb true)⟩⟩,⟨5,⟨1,(.tmp 32)⟩⟩]),qn (.st 6 (.tmp 4) (.tmp 33)),qq 5 (.mv (ki 2)),qq 6 (.mv (ki 0))]) .ret)))
theorem k170:conv Tryz.prog 34 (Tryz.f170.body.getD .skip)=c170:=by kernel_rfl
theorem in170 {a0 a1:Value} {w:World} {R:Value→World→Prop} (h:G Tryz.prog Tryz.f170 34 [.c c170] R (frL 0 [a0,a1]) w):Ret Tryz.prog 170 #[a0,a1] w R:=G.enter (args:=[a0,a1]) Tryz.func170 (c:=Tryz.f170.body.getD .skip) (by kernel_rfl) (by kernel_rfl) (by simp) k170 h
theorem atStart_spec (d:Dl) (b:UInt8) (w:World):Pu Tryz.prog 170 #[(.agg #[U d.dl,U d.q,I d.e]),U b.toNat] w (.tuple #[(.agg #[.bool (startM d b).1.b,.bool (startM d b).1.a,.bool (startM d b).1.f,.bool (startM d b).1.l,.bool (startM d b).1.r,U (startM d b).1.c.toNat]),I (startM d b).2.1,I (startM d b).2.2]):=by
  refine in170 ?_
  have hS:=Sep.start w
  unfold startM
  cases h0:wrongE d b.toNat
  · rw [if_neg (by simp)]
    (have fct:=@h0;repeat' (first|((with_reducible apply G.a);exact rfl)|refine G.reg fun K hK=>?_|(with_reducible (refine hK _ _ ?_);clear hK K)|(have hk:=hK;clear hk;simp (disch:=first|exact dis|fail) only [push_cast,↓reduceIte,zq1,zq2,zq3,zq4,zq5,fct])|((first|refine zalc ?_|((with_reducible refine gBox ?_);refine zbox ?_));intro gb wb hS)|((with_reducible refine gSt ?_);refine zs2 ?_;intro wb hS)|(refine zcp 193 (wrongEnd_spec d _ _) ?_;intro wb hS)|(refine G.cn ?_ ?_<;>intro hc<;>first|(with_reducible exact False.elim hc)|(exfalso;omega)|skip)))<;>(try clear fct)
    all_goals
      (first|refine G.r1 ?_|refine G.r2 ?_|refine G.r3 ?_|refine G.r0 ?_|refine G.d0 ?_);(try simp (disch:=first|exact dis|fail) only [push_cast,↓reduceIte,zq1,zq2,zq3,zq4,zq5,fct])
      refine ⟨?_,Sep.xt (by assumption)⟩
      simp_all
  · rw [if_pos rfl]
    (have fct:=@h0;repeat' (first|((with_reducible apply G.a);exact rfl)|refine G.reg fun K hK=>?_|(with_reducible (refine hK _ _ ?_);clear hK K)|(have hk:=hK;clear hk;simp (disch:=first|exact dis|fail) only [push_cast,↓reduceIte,zq1,zq2,zq3,zq4,zq5,fct])|((first|refine zalc ?_|((with_reducible refine gBox ?_);refine zbox ?_));intro gb wb hS)|((with_reducible refine gSt ?_);refine zs2 ?_;intro wb hS)|(refine zcp 193 (wrongEnd_spec d _ _) ?_;intro wb hS)|(refine G.cn ?_ ?_<;>intro hc<;>first|(with_reducible exact False.elim hc)|(exfalso;omega)|skip)))<;>(try clear fct)
    all_goals
      (first|refine G.r1 ?_|refine G.r2 ?_|refine G.r3 ?_|refine G.r0 ?_|refine G.d0 ?_);(try simp (disch:=first|exact dis|fail) only [push_cast,↓reduceIte,zq1,zq2,zq3,zq4,zq5,fct])
      first|(first|exact Sep.xt (by assumption)|exact ⟨rfl,Sep.xt (by assumption)⟩)|(exfalso;simp_all;done)
def c171:MC:=(.seq (.reg [qq 3 (.raw (.box 39 (.tmp 0)) 0),qq 6 (.alc 197 [(.bool false),(.bool false),(.bool false),(.bool false),(.bool false),(.int .u8 0)]),qq 7 (.mv (ki 0)),qq 8 (.mv (ki 0))]) (.seq (.blk 0 (.seq (.reg [qq 10 (.ld (.some 3) (.tmp 3)),qm 11 2,qq 12 (.call 193 [(.tmp 10),(.tmp 11)]),qm 9 12]) (.cond (.tmp 9) (.seq (.reg [qq 13 (.bld [(.bool false),(.bool false),(.bool false),(.bool false),(.bool false),(.int .u8 0)] []),qn (.st 6 (.tmp 6) (.tmp 13)),qq 7 (.mv (ki 0)),qq 8 (.mv (ki 6))]) .ret) (.seq (.reg [qm 15 2,qq 16 (.fad 1 (.tmp 3)),qq 17 (.ld none (.tmp 16)),qq 18 (.bin .eql (.tmp 15) (.tmp 17)),qm 19 18,qmt 19 20 1,qt 19 21 (.bin .eql (.tmp 20) (ki 1)),qq 22 (.pick (.tmp 19) (.tmp 21) (kb false)),qm 14 22]) (.cond (.tmp 14) (.seq (.reg [qq 23 (.bld [(.bool false),(.bool false),(.bool false),(.bool false),(.bool false),(.int .u8 0)] []),qn (.st 6 (.tmp 6) (.tmp 23)),qq 7 (.mv (ki 3)),qq 8 (.mv (ki 0))]) .ret) (.seq (.reg [qm 25 2,qq 26 (.fad 1 (.tmp 3)),qq 27 (.ld none (.tmp 26)),qq 28 (.bin .eql (.tmp 25) (.tmp 27)),qm 29 28,qmt 29 30 1,qt 29 31 (.bin .eql (.tmp 30) (ki 4)),qq 32 (.pick (.tmp 29) (.tmp 31) (kb false)),qm 24 32]) (.cond (.tmp 24) (.seq (.reg [qm 33 2,qq 34 (.bld [(.bool false),(.bool false),(.bool false),(.bool false),(.bool false),(.int .u8 0)] [⟨1,⟨1,(kb true)⟩⟩,⟨5,⟨1,(.tmp 33)⟩⟩]),qn (.st 6 (.tmp 6) (.tmp 34)),qq 7 (.mv (ki 3)),qq 8 (.mv (ki 0))]) .ret) (.seq (.reg [qm 36 2,qq 37 (.fad 1 (.tmp 3)),qq 38 (.ld none (.tmp 37)),qq 39 (.bin .eql (.tmp 36) (.tmp 38)),qm 35 39]) (.cond (.tmp 35) (.seq (.reg [qq 40 (.bld [(.bool false),(.bool false),(.bool false),(.bool false),(.bool false),(.int .u8 0)] []),qn (.st 6 (.tmp 6) (.tmp 40)),qq 7 (.mv (ki 0)),qq 8 (.mv (ki 4))]) .ret) (.seq (.reg [qm 42 2,qq 43 (.fad 0 (.tmp 3)),qq 44 (.ld none (.tmp 43)),qq 45 (.bin .eql (.tmp 42) (.tmp 44)),qm 41 45]) (.cond (.tmp 41) (.seq (.reg [qq 46 (.bld [(.bool false),(.bool false),(.bool false),(.bool false),(.bool false),(.int .u8 0)] [⟨2,⟨1,(kb true)⟩⟩]),qn (.st 6 (.tmp 6) (.tmp 46)),qq 7 (.mv (ki 1)),qq 8 (.mv (ki 0))]) .ret) (.seq (.reg [qm 48 2,qq 49 (.bin .eql (.tmp 48) (.const (.int .u8 13))),qm 47 49]) (.cond (.tmp 47) (.seq (.reg [qq 50 (.bld [(.bool false),(.bool false),(.bool false),(.bool false),(.bool false),(.int .u8 0)] [⟨3,⟨1,(kb true)⟩⟩]),qn (.st 6 (.tmp 6) (.tmp 50)),qq 7 (.mv (ki 5)),qq 8 (.mv (ki 0))]) .ret) (.seq (.reg [qm 52 2,qq 53 (.bin .eql (.tmp 52) (.const (.int .u8 10))),qm 51 53]) (.cond (.tmp 51) (.seq (.reg [qq 54 (.bld [(.bool false),(.bool false),(.bool false),(.bool false),(.bool false),(.int .u8 0)] [⟨3,⟨1,(kb true)⟩⟩,⟨4,⟨1,(kb true)⟩⟩]),qn (.st 6 (.tmp 6) (.tmp 54)),qq 7 (.mv (ki 0)),qq 8 (.mv (ki 0))]) .ret) (.seq (.reg [qm 56 1,qq 57 (.bin .eql (.tmp 56) (ki 4)),qm 55 57]) (.cond (.tmp 55) (.seq (.reg [qq 58 (.bld [(.bool false),(.bool false),(.bool false),(.bool false),(.bool false),(.int .u8 0)] []),qn (.st 6 (.tmp 6) (.tmp 58)),qq 7 (.mv (ki 0)),qq 8 (.mv (ki 5))]) .ret) .skip))))))))))))))))) (.seq (.reg [qm 59 2,qq 60 (.bld [(.bool false),(.bool false),(.bool false),(.bool false),(.bool false),(.int .u8 0)] [⟨1,⟨1,(kb true)⟩⟩,⟨5,⟨1,(.tmp 59)⟩⟩]),qn (.st 6 (.tmp 6) (.tmp 60)),qq 7 (.mv (ki 2)),qq 8 (.mv (ki 0))]) .ret)))
theorem k171:conv Tryz.prog 61 (Tryz.f171.body.getD .skip)=c171:=by kernel_rfl
theorem in171 {a0 a1 a2:Value} {w:World} {R:Value→World→Prop} (h:G Tryz.prog Tryz.f171 61 [.c c171] R (frL 0 [a0,a1,a2]) w):Ret Tryz.prog 171 #[a0,a1,a2] w R:=G.enter (args:=[a0,a1,a2]) Tryz.func171 (c:=Tryz.f171.body.getD .skip) (by kernel_rfl) (by kernel_rfl) (by simp) k171 h
theorem inRecord_spec (d:Dl) (st:Int) (b:UInt8) (w:World):Pu Tryz.prog 171 #[(.agg #[U d.dl,U d.q,I d.e]),I st,U b.toNat] w (.tuple #[(.agg #[.bool (inM d st b).1.b,.bool (inM d st b).1.a,.bool (inM d st b).1.f,.bool (inM d st b).1.l,.bool (inM d st b).1.r,U (inM d st b).1.c.toNat]),I (inM d st b).2.1,I (inM d st b).2.2]):=by
  refine in171 ?_
  have hS:=Sep.start w
  unfold inM
  cases h0:wrongE d b.toNat
  · rw [if_neg (by simp)]
    (have fct:=@h0;repeat' (first|((with_reducible apply G.a);exact rfl)|refine G.reg fun K hK=>?_|(with_reducible (refine hK _ _ ?_);clear hK K)|(have hk:=hK;clear hk;simp (disch:=first|exact dis|fail) only [push_cast,↓reduceIte,zq1,zq2,zq3,zq4,zq5,fct])|(refine brO_n ?_ ?_<;>intro hb hc<;>first|(with_reducible exact False.elim hc)|(exfalso;omega)|(simp only [hb];clear hb))|((first|refine zalc ?_|((with_reducible refine gBox ?_);refine zbox ?_));intro gb wb hS)|((with_reducible refine gSt ?_);refine zs2 ?_;intro wb hS)|(refine zcp 193 (wrongEnd_spec d _ _) ?_;intro wb hS)|(refine G.cn ?_ ?_<;>intro hc<;>first|(with_reducible exact False.elim hc)|(exfalso;omega)|skip)))<;>(try clear fct)
    all_goals
      (first|refine G.r1 ?_|refine G.r2 ?_|refine G.r3 ?_|refine G.r0 ?_|refine G.d0 ?_);(try simp (disch:=first|exact dis|fail) only [push_cast,↓reduceIte,zq1,zq2,zq3,zq4,zq5,fct])
      refine ⟨?_,Sep.xt (by assumption)⟩
      simp_all
  · rw [if_pos rfl]
    (have fct:=@h0;repeat' (first|((with_reducible apply G.a);exact rfl)|refine G.reg fun K hK=>?_|(with_reducible (refine hK _ _ ?_);clear hK K)|(have hk:=hK;clear hk;simp (disch:=first|exact dis|fail) only [push_cast,↓reduceIte,zq1,zq2,zq3,zq4,zq5,fct])|(refine brO_n ?_ ?_<;>intro hb hc<;>first|(with_reducible exact False.elim hc)|(exfalso;omega)|(simp only [hb];clear hb))|((first|refine zalc ?_|((with_reducible refine gBox ?_);refine zbox ?_));intro gb wb hS)|((with_reducible refine gSt ?_);refine zs2 ?_;intro wb hS)|(refine zcp 193 (wrongEnd_spec d _ _) ?_;intro wb hS)|(refine G.cn ?_ ?_<;>intro hc<;>first|(with_reducible exact False.elim hc)|(exfalso;omega)|skip)))<;>(try clear fct)
    all_goals
      (first|refine G.r1 ?_|refine G.r2 ?_|refine G.r3 ?_|refine G.r0 ?_|refine G.d0 ?_);(try simp (disch:=first|exact dis|fail) only [push_cast,↓reduceIte,zq1,zq2,zq3,zq4,zq5,fct])
      first|(first|exact Sep.xt (by assumption)|exact ⟨rfl,Sep.xt (by assumption)⟩)|(exfalso;simp_all;done)
def c130:MC:=(.seq (.reg [qq 3 (.raw (.box 39 (.tmp 0)) 0),qq 6 (.alc 197 [(.bool false),(.bool false),(.bool false),(.bool false),(.bool false),(.int .u8 0)]),qq 7 (.mv (ki 0)),qq 8 (.mv (ki 0))]) (.seq (.seq (.reg [qm 9 1]) (.blk 0 (.seq (.reg [qq 11 (.bin .eql (.tmp 9) (ki 0)),qm 10 11]) (.cond (.tmp 10) (.seq (.reg [qq 12 (.ld (.some 3) (.tmp 3)),qm 13 2,qq 14 (.call 170 [(.tmp 12),(.tmp 13)]),qq 15 (.ext 0 (.tmp 14)),qq 16 (.ext 1 (.tmp 14)),qq 17 (.ext 2 (.tmp 14)),qn (.st 6 (.tmp 6) (.tmp 15)),qm 7 16,qm 8 17]) .ret) (.seq (.seq (.reg [qq 19 (.bin .eql (.tmp 9) (ki 1)),qm 18 19]) (.cond (.tmp 18) .skip (.seq (.reg [qq 20 (.bin .eql (.tmp 9) (ki 2)),qm 18 20]) (.cond (.tmp 18) .skip (.reg [qq 21 (.bin .eql (.tmp 9) (ki 4)),qm 18 21]))))) (.cond (.tmp 18) (.seq (.reg [qq 22 (.ld (.some 3) (.tmp 3)),qm 23 1,qm 24 2,qq 25 (.call 171 [(.tmp 22),(.tmp 23),(.tmp 24)]),qq 26 (.ext 0 (.tmp 25)),qq 27 (.ext 1 (.tmp 25)),qq 28 (.ext 2 (.tmp 25)),qn (.st 6 (.tmp 6) (.tmp 26)),qm 7 27,qm 8 28]) .ret) (.seq (.reg [qq 30 (.bin .eql (.tmp 9) (ki 3)),qm 29 30]) (.cond (.tmp 29) (.seq (.seq (.reg [qm 31 2,qq 32 (.fad 1 (.tmp 3)),qq 33 (.ld none (.tmp 32)),qq 34 (.bin .eql (.tmp 31) (.tmp 33))]) (.cond (.tmp 34) (.seq (.reg [qq 35 (.bld [(.bool false),(.bool false),(.bool false),(.bool false),(.bool false),(.int .u8 0)] []),qn (.st 6 (.tmp 6) (.tmp 35)),qq 7 (.mv (ki 4)),qq 8 (.mv (ki 0))]) .ret) .skip)) (.seq (.reg [qm 36 2,qq 37 (.bld [(.bool false),(.bool false),(.bool false),(.bool false),(.bool false),(.int .u8 0)] [⟨1,⟨1,(kb true)⟩⟩,⟨5,⟨1,(.tmp 36)⟩⟩]),qn (.st 6 (.tmp 6) (.tmp 37)),qq 7 (.mv (ki 3)),qq 8 (.mv (ki 0))]) .ret)) (.seq (.seq (.reg [qq 39 (.bin .eql (.tmp 9) (ki 5)),qm 38 39]) (.cond (.tmp 38) .skip (.reg [qq 40 (.bin .eql (.tmp 9) (ki 6)),qm 38 40]))) (.cond (.tmp 38) (.seq (.seq (.reg [qm 41 2,qq 42 (.bin .neq (.tmp 41) (.const (.int .u8 10)))]) (.cond (.tmp 42) (.seq (.reg [qq 43 (.bld [(.bool false),(.bool false),(.bool false),(.bool false),(.bool false),(.int .u8 0)] []),qn (.st 6 (.tmp 6) (.tmp 43)),qq 7 (.mv (ki 0)),qq 8 (.mv (ki 6))]) .ret) .skip)) (.seq (.reg [qm 44 1,qq 45 (.bin .eql (.tmp 44) (ki 5)),qq 46 (.bld [(.bool false),(.bool false),(.bool false),(.bool false),(.bool false),(.int .u8 0)] [⟨4,⟨1,(.tmp 45)⟩⟩]),qn (.st 6 (.tmp 6) (.tmp 46)),qq 7 (.mv (ki 0)),qq 8 (.mv (ki 0))]) .ret)) .skip)))))))))) (.seq (.reg [qq 47 (.bld [(.bool false),(.bool false),(.bool false),(.bool false),(.bool false),(.int .u8 0)] []),qn (.st 6 (.tmp 6) (.tmp 47)),qq 7 (.mv (ki 0)),qq 8 (.mv (ki 0))]) .ret)))
theorem k130:conv Tryz.prog 48 (Tryz.f130.body.getD .skip)=c130:=by kernel_rfl
theorem in130 {a0 a1 a2:Value} {w:World} {R:Value→World→Prop} (h:G Tryz.prog Tryz.f130 48 [.c c130] R (frL 0 [a0,a1,a2]) w):Ret Tryz.prog 130 #[a0,a1,a2] w R:=G.enter (args:=[a0,a1,a2]) Tryz.func130 (c:=Tryz.f130.body.getD .skip) (by kernel_rfl) (by kernel_rfl) (by simp) k130 h
theorem scStep_spec (d:Dl) (st:Int) (b:UInt8) (w:World):Pu Tryz.prog 130 #[(.agg #[U d.dl,U d.q,I d.e]),I st,U b.toNat] w (.tuple #[(.agg #[.bool (scM d st b).1.b,.bool (scM d st b).1.a,.bool (scM d st b).1.f,.bool (scM d st b).1.l,.bool (scM d st b).1.r,U (scM d st b).1.c.toNat]),I (scM d st b).2.1,I (scM d st b).2.2]):=by
  refine in130 ?_
  have hS:=Sep.start w
  unfold scM
  repeat' (first|((with_reducible apply G.a);exact rfl)|refine G.reg fun K hK=>?_|(with_reducible (refine hK _ _ ?_);clear hK K)|(have hk:=hK;clear hk;simp (disch:=first|exact dis|fail) only [push_cast,↓reduceIte,zq1,zq2,zq3,zq4,zq5,fct])|((first|refine zalc ?_|((with_reducible refine gBox ?_);refine zbox ?_));intro gb wb hS)|((with_reducible refine gSt ?_);refine zs2 ?_;intro wb hS)|(refine zcp 170 (atStart_spec d b _) ?_;intro wb hS)|(refine zcp 171 (inRecord_spec d _ b _) ?_;intro wb hS)|(refine G.cn ?_ ?_<;>intro hc<;>first|(with_reducible exact False.elim hc)|(exfalso;omega)|skip))
  all_goals
    (first|refine G.r1 ?_|refine G.r2 ?_|refine G.r3 ?_|refine G.r0 ?_|refine G.d0 ?_);(try simp (disch:=first|exact dis|fail) only [push_cast,↓reduceIte,zq1,zq2,zq3,zq4,zq5,fct])
    refine ⟨?_,Sep.xt (by assumption)⟩
    clear hS
    simp_all
def c132:MC:=(.seq (.reg [qq 2 (.alc 197 [(.bool false),(.bool false),(.bool false),(.bool false),(.bool false),(.int .u8 0)]),qq 3 (.mv (ki 0))]) (.seq (.seq (.reg [qm 4 0]) (.blk 0 (.seq (.seq (.reg [qq 6 (.bin .eql (.tmp 4) (ki 1)),qm 5 6]) (.cond (.tmp 5) .skip (.seq (.reg [qq 7 (.bin .eql (.tmp 4) (ki 2)),qm 5 7]) (.cond (.tmp 5) .skip (.reg [qq 8 (.bin .eql (.tmp 4) (ki 4)),qm 5 8]))))) (.cond (.tmp 5) (.seq (.reg [qq 9 (.bld [(.bool false),(.bool false),(.bool false),(.bool false),(.bool false),(.int .u8 0)] [⟨3,⟨1,(kb true)⟩⟩,⟨4,⟨1,(kb true)⟩⟩]),qn (.st 6 (.tmp 2) (.tmp 9)),qq 3 (.mv (ki 0))]) .ret) (.seq (.reg [qq 11 (.bin .eql (.tmp 4) (ki 3)),qm 10 11]) (.cond (.tmp 10) (.seq (.reg [qq 12 (.bld [(.bool false),(.bool false),(.bool false),(.bool false),(.bool false),(.int .u8 0)] []),qn (.st 6 (.tmp 2) (.tmp 12)),qq 3 (.mv (ki 11))]) .ret) (.seq (.seq (.reg [qq 14 (.bin .eql (.tmp 4) (ki 5)),qm 13 14]) (.cond (.tmp 13) .skip (.reg [qq 15 (.bin .eql (.tmp 4) (ki 6)),qm 13 15]))) (.cond (.tmp 13) (.seq (.reg [qq 16 (.bld [(.bool false),(.bool false),(.bool false),(.bool false),(.bool false),(.int .u8 0)] []),qn (.st 6 (.tmp 2) (.tmp 16)),qq 3 (.mv (ki 6))]) .ret) .skip)))))))) (.seq (.reg [qq 17 (.bld [(.bool false),(.bool false),(.bool false),(.bool false),(.bool false),(.int .u8 0)] []),qn (.st 6 (.tmp 2) (.tmp 17)),qq 3 (.mv (ki 0))]) .ret)))
theorem k132:conv Tryz.prog 18 (Tryz.f132.body.getD .skip)=c132:=by kernel_rfl
theorem in132 {a0:Value} {w:World} {R:Value→World→Prop} (h:G Tryz.prog Tryz.f132 18 [.c c132] R (frL 0 [a0]) w):Ret Tryz.prog 132 #[a0] w R:=G.enter (args:=[a0]) Tryz.func132 (c:=Tryz.f132.body.getD .skip) (by kernel_rfl) (by kernel_rfl) (by simp) k132 h
theorem scClose_spec (st:Int) (w:World):Pu Tryz.prog 132 #[I st] w (.tuple #[(.agg #[.bool (closeM st).1.b,.bool (closeM st).1.a,.bool (closeM st).1.f,.bool (closeM st).1.l,.bool (closeM st).1.r,U (closeM st).1.c.toNat]),I (closeM st).2]):=by
  refine in132 ?_
  have hS:=Sep.start w
  unfold closeM
  repeat' (first|((with_reducible apply G.a);exact rfl)|refine G.reg fun K hK=>?_|(with_reducible (refine hK _ _ ?_);clear hK K)|(have hk:=hK;clear hk;simp (disch:=first|exact dis|fail) only [push_cast,↓reduceIte,zq1,zq2,zq3,zq4,zq5,fct])|(refine zalc ?_;intro gb wb hS)|((with_reducible refine gSt ?_);refine zs2 ?_;intro wb hS)|(refine G.cn ?_ ?_<;>intro hc<;>first|(with_reducible exact False.elim hc)|(exfalso;omega)|skip))
  all_goals
    (first|refine G.r1 ?_|refine G.r2 ?_|refine G.r3 ?_|refine G.r0 ?_|refine G.d0 ?_);(try simp (disch:=first|exact dis|fail) only [push_cast,↓reduceIte,zq1,zq2,zq3,zq4,zq5,fct])
    refine ⟨?_,Sep.xt (by assumption)⟩
    clear hS
    simp_all
end Go.Proofs.YtllanbmpacgigaaGreatDoor
namespace Go.Proofs.YtllanbmpacgigaaGreatDoor
open Nat renaming reduceAdd→zq1,reduceLeDiff→zq2,reduceEqDiff→zq3,reduceLT→zq4
open Int renaming reduceToNat→zq5
set_option linter.unusedSimpArgs false
set_option linter.unusedVariables false
open Go.RowKit
theorem open_agg {α:Type} {P:Program} {t:TypeId} {E:Enc α} {good:α→Prop} {H:Type} {enc:TypeId×Value→H} {w:World} {base:Nat} {sp:Nat→Bool} {hd:Bool} {v:Value} {d:DataW H} {ps:List MemPlace}
    (hE:Opens P t E good) (h2:2≤E.sz) (h:DataW.Trod enc P w base sp hd t v d ps):∃ x,v=.agg (E.f x).toArray∧good x:=by
  obtain ⟨fuel,h⟩:=h
  obtain ⟨x,hc,hg,_⟩:=hE enc w base sp hd fuel _ _ h
  refine ⟨x,?_,hg⟩
  have hl:(E.f x).length=E.sz:=E.len x
  cases v with
  | agg xs =>
    have:xs.toList=E.f x:=hc
    rw [←this]
  | _ =>
    exfalso
    have h3:=congrArg List.length hc
    simp [Value.cells] at h3
    omega
def eDl:Enc Dl:=⟨3,fun d=>[U d.dl,U d.q,I d.e],fun _=>rfl⟩
def i64D (d:Dl):Prop:=byD d∧-9223372036854775808≤d.e∧d.e≤9223372036854775807
theorem opens_dl {P:Program} {t tu ti:TypeId} (h:flatTs P t=some [tu,tu,ti]) (hu:P.underlying tu=some (.int .u8)) (hi:P.underlying ti=some (.int .i64)):Opens P t eDl i64D:=by
  intro H enc w base sp hd fuel cs x hx
  obtain ⟨hl,hf⟩:=flat_trod h hx
  match cs,hl with
  | [a,b,c],_ =>
    obtain ⟨f0,y0,h0⟩:=hf 0 (by simp)
    obtain ⟨f1,y1,h1⟩:=hf 1 (by simp)
    obtain ⟨f2,y2,h2⟩:=hf 2 (by simp)
    obtain ⟨n0,e0,_,g0⟩:=DataW.trod_int hu h0
    obtain ⟨n1,e1,_,g1⟩:=DataW.trod_int hu h1
    obtain ⟨n2,e2,_,g2⟩:=DataW.trod_int hi h2
    have g0':IntKind.u8.min≤n0∧n0≤IntKind.u8.max:=by simpa [Lit.wf] using g0
    have g1':IntKind.u8.min≤n1∧n1≤IntKind.u8.max:=by simpa [Lit.wf] using g1
    have g2':IntKind.i64.min≤n2∧n2≤IntKind.i64.max:=by simpa [Lit.wf] using g2
    simp at e0 e1 e2
    subst e0;subst e1;subst e2
    refine ⟨⟨n0,n1,n2⟩,rfl,⟨⟨g0'.1,g0'.2,g1'.1,g1'.2⟩,g2'.1,g2'.2⟩,?_⟩
    intro u hu
    simp at hu
    rcases hu with rfl|rfl|rfl<;>exact one_i
end Go.Proofs.YtllanbmpacgigaaGreatDoor
