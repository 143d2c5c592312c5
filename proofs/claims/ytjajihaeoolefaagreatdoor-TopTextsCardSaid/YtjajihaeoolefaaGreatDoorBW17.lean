/- Texts of the proof, joined. -/
import Derived.Test.YtjajihaeoolefaaGreatDoorBR02
import Derived.Test.YtjajihaeoolefaaGreatDoorBW02
namespace Go.Proofs.YtjajihaeoolefaaGreatDoor
open Nat renaming reduceAdd→zq1,reduceLeDiff→zq2,reduceEqDiff→zq3,reduceLT→zq4
open Int renaming reduceToNat→zq5
set_option linter.unusedSimpArgs false
set_option linter.unusedVariables false
attribute [local irreducible] SemK UnitK StK AlcK BslK CallK CallV Instr.box Builtin.append_ Instr.makeSlice Instr.makeMap Instr.lookup Instr.mapUpdate Instr.sliceAt convert
open Go.RowKit
theorem right_iff (v:Val):rightM v=true↔(v.kind=0∧v.s=[]∧v.n=0∧v.b=false)∨(v.kind=1∧validM v.s=true∧v.n=0∧v.b=false)∨(v.kind=2∧v.s=[]∧v.b=false)∨(v.kind=3∧v.s=[]∧v.n=0):=by
  constructor
  · intro h
    obtain ⟨⟨h0,h3,a1,a2,a3⟩,hv⟩:=right_of h
    have:v.kind=0∨v.kind=1∨v.kind=2∨v.kind=3:=by omega
    rcases this with e|e|e|e
    · exact .inl ⟨e,a1.resolve_left (by omega),a2.resolve_left (by omega),a3.resolve_left (by omega)⟩
    · exact .inr (.inl ⟨e,hv,a2.resolve_left (by omega),a3.resolve_left (by omega)⟩)
    · exact .inr (.inr (.inl ⟨e,a1.resolve_left (by omega),a3.resolve_left (by omega)⟩))
    · exact .inr (.inr (.inr ⟨e,a1.resolve_left (by omega),a2.resolve_left (by omega)⟩))
  · have hn:validM []=true:=rfl
    rintro (⟨e,h1,h2,h3⟩|⟨e,h1,h2,h3⟩|⟨e,h1,h3⟩|⟨e,h1,h2⟩)<;>simp [rightM, *]
def c75:MC:=(.seq (.reg [qq 2 (.mv (kb false))]) (.seq (.reg [qm 3 0,qq 4 (.bin .eql (.tmp 3) (ki 1)),qm 5 4,qmf 5 6 0,qf 5 7 (.bin .eql (.tmp 6) (ki 2)),qq 8 (.pick (.tmp 5) (kb true) (.tmp 7)),qm 9 8,qmf 9 10 0,qf 9 11 (.bin .eql (.tmp 10) (ki 3)),qq 12 (.pick (.tmp 9) (kb true) (.tmp 11)),qm 2 12]) .ret))
theorem k75:conv Tryz.prog 13 (Tryz.f75.body.getD .skip)=c75:=by kernel_rfl
theorem in75 {a0:Value} {w:World} {R:Value→World→Prop} (h:G Tryz.prog Tryz.f75 13 [.c c75] R (frL 0 [a0]) w):Ret Tryz.prog 75 #[a0] w R:=G.enter (args:=[a0]) Tryz.func75 (c:=Tryz.f75.body.getD .skip) (by kernel_rfl) (by kernel_rfl) (by simp) k75 h
theorem known_spec (k:Int) (w:World):Pu Tryz.prog 75 #[I k] w (.bool (decide (1≤k∧k≤3))):=by
  refine in75 ?_
  have hS:=Sep.start w
  repeat' (first|((with_reducible apply G.a);exact rfl)|refine G.reg fun K hK=>?_|(with_reducible (refine hK _ _ ?_);clear hK K)|(have hk:=hK;clear hk;simp (disch:=first|exact dis|fail) only [push_cast,↓reduceIte,zq1,zq2,zq3,zq4,zq5,fct])|(refine brO_n ?_ ?_<;>intro hb hc<;>first|(with_reducible exact False.elim hc)|(exfalso;omega)|(simp only [hb];clear hb)))
  all_goals
    (first|refine G.r1 ?_|refine G.r2 ?_|refine G.r3 ?_|refine G.r0 ?_|refine G.d0 ?_);(try simp (disch:=first|exact dis|fail) only [push_cast,↓reduceIte,zq1,zq2,zq3,zq4,zq5,fct])
    refine ⟨?_,Sep.xt (by assumption)⟩
    congr 1
    rw [Bool.eq_iff_iff]
    simp only [beq_iff_eq,decide_eq_true_eq,true_iff]
    omega
def c88:MC:=(.seq (.reg [qq 2 (.alc 84 [(.int .i64 0),(S []),(.int .i64 0),(.bool false)])]) (.seq (.reg [qm 3 0,qq 4 (.bld [(.int .i64 0),(S []),(.int .i64 0),(.bool false)] [⟨0,⟨1,(ki 1)⟩⟩,⟨1,⟨1,(.tmp 3)⟩⟩]),qn (.st 4 (.tmp 2) (.tmp 4))]) .ret))
theorem k88:conv Tryz.prog 5 (Tryz.f88.body.getD .skip)=c88:=by kernel_rfl
theorem in88 {a0:Value} {w:World} {R:Value→World→Prop} (h:G Tryz.prog Tryz.f88 5 [.c c88] R (frL 0 [a0]) w):Ret Tryz.prog 88 #[a0] w R:=G.enter (args:=[a0]) Tryz.func88 (c:=Tryz.f88.body.getD .skip) (by kernel_rfl) (by kernel_rfl) (by simp) k88 h
theorem text17_spec (s:Str) (w:World):Pu Tryz.prog 88 #[S s] w (.agg #[I 1,S s,I 0,.bool false]):=by
  refine in88 ?_
  have hS:=Sep.start w
  repeat' (first|((with_reducible apply G.a);exact rfl)|refine G.reg fun K hK=>?_|(with_reducible (refine hK _ _ ?_);clear hK K)|(have hk:=hK;clear hk;simp (disch:=first|exact dis|fail) only [push_cast,↓reduceIte,zq1,zq2,zq3,zq4,zq5,fct])|(refine zalc ?_;intro gb wb hS)|((with_reducible refine gSt ?_);refine zs2 ?_;intro wb hS))
  (first|refine G.r1 ?_|refine G.r2 ?_|refine G.r3 ?_|refine G.r0 ?_|refine G.d0 ?_);(try simp (disch:=first|exact dis|fail) only [push_cast,↓reduceIte,zq1,zq2,zq3,zq4,zq5,fct])
  (first|exact Sep.xt (by assumption)|exact ⟨rfl,Sep.xt (by assumption)⟩)
def c85:MC:=(.seq (.reg [qq 2 (.alc 84 [(.int .i64 0),(S []),(.int .i64 0),(.bool false)])]) (.seq (.reg [qm 3 0,qq 4 (.bld [(.int .i64 0),(S []),(.int .i64 0),(.bool false)] [⟨0,⟨1,(ki 2)⟩⟩,⟨2,⟨1,(.tmp 3)⟩⟩]),qn (.st 4 (.tmp 2) (.tmp 4))]) .ret))
theorem k85:conv Tryz.prog 5 (Tryz.f85.body.getD .skip)=c85:=by kernel_rfl
theorem in85 {a0:Value} {w:World} {R:Value→World→Prop} (h:G Tryz.prog Tryz.f85 5 [.c c85] R (frL 0 [a0]) w):Ret Tryz.prog 85 #[a0] w R:=G.enter (args:=[a0]) Tryz.func85 (c:=Tryz.f85.body.getD .skip) (by kernel_rfl) (by kernel_rfl) (by simp) k85 h
theorem int17_spec (n:Int) (w:World):Pu Tryz.prog 85 #[I n] w (.agg #[I 2,S [],I n,.bool false]):=by
  refine in85 ?_
  have hS:=Sep.start w
  repeat' (first|((with_reducible apply G.a);exact rfl)|refine G.reg fun K hK=>?_|(with_reducible (refine hK _ _ ?_);clear hK K)|(have hk:=hK;clear hk;simp (disch:=first|exact dis|fail) only [push_cast,↓reduceIte,zq1,zq2,zq3,zq4,zq5,fct])|(refine zalc ?_;intro gb wb hS)|((with_reducible refine gSt ?_);refine zs2 ?_;intro wb hS))
  (first|refine G.r1 ?_|refine G.r2 ?_|refine G.r3 ?_|refine G.r0 ?_|refine G.d0 ?_);(try simp (disch:=first|exact dis|fail) only [push_cast,↓reduceIte,zq1,zq2,zq3,zq4,zq5,fct])
  (first|exact Sep.xt (by assumption)|exact ⟨rfl,Sep.xt (by assumption)⟩)
def c86:MC:=(.seq (.reg [qq 2 (.alc 84 [(.int .i64 0),(S []),(.int .i64 0),(.bool false)])]) (.seq (.reg [qm 3 0,qq 4 (.bld [(.int .i64 0),(S []),(.int .i64 0),(.bool false)] [⟨0,⟨1,(ki 3)⟩⟩,⟨3,⟨1,(.tmp 3)⟩⟩]),qn (.st 4 (.tmp 2) (.tmp 4))]) .ret))
theorem k86:conv Tryz.prog 5 (Tryz.f86.body.getD .skip)=c86:=by kernel_rfl
theorem in86 {a0:Value} {w:World} {R:Value→World→Prop} (h:G Tryz.prog Tryz.f86 5 [.c c86] R (frL 0 [a0]) w):Ret Tryz.prog 86 #[a0] w R:=G.enter (args:=[a0]) Tryz.func86 (c:=Tryz.f86.body.getD .skip) (by kernel_rfl) (by kernel_rfl) (by simp) k86 h
theorem bool17_spec (b:Bool) (w:World):Pu Tryz.prog 86 #[.bool b] w (.agg #[I 3,S [],I 0,.bool b]):=by
  refine in86 ?_
  have hS:=Sep.start w
  repeat' (first|((with_reducible apply G.a);exact rfl)|refine G.reg fun K hK=>?_|(with_reducible (refine hK _ _ ?_);clear hK K)|(have hk:=hK;clear hk;simp (disch:=first|exact dis|fail) only [push_cast,↓reduceIte,zq1,zq2,zq3,zq4,zq5,fct])|(refine zalc ?_;intro gb wb hS)|((with_reducible refine gSt ?_);refine zs2 ?_;intro wb hS))
  (first|refine G.r1 ?_|refine G.r2 ?_|refine G.r3 ?_|refine G.r0 ?_|refine G.d0 ?_);(try simp (disch:=first|exact dis|fail) only [push_cast,↓reduceIte,zq1,zq2,zq3,zq4,zq5,fct])
  (first|exact Sep.xt (by assumption)|exact ⟨rfl,Sep.xt (by assumption)⟩)
def c76:MC:=(.seq (.reg [qq 1 (.raw (.box 84 (.tmp 0)) 0),qq 2 (.mv (kb false))]) (.seq (.seq (.reg [qq 3 (.fad 0 (.tmp 1)),qq 4 (.ld none (.tmp 3))]) (.blk 0 (.seq (.reg [qq 6 (.bin .eql (.tmp 4) (ki 0)),qm 5 6]) (.cond (.tmp 5) (.seq (.reg [qq 7 (.ld (.some 4) (.tmp 1)),qq 8 (.bld [(.int .i64 0),(S []),(.int .i64 0),(.bool false)] []),qq 9 (.eqA false [.i,.s,.i,.b] (.tmp 7) (.tmp 8)),qm 2 9]) .ret) (.seq (.reg [qq 11 (.bin .eql (.tmp 4) (ki 1)),qm 10 11]) (.cond (.tmp 10) (.seq (.drg [qq 12 (.ld (.some 4) (.tmp 1)),qq 13 (.fad 1 (.tmp 1)),qq 14 (.ld none (.tmp 13)),qq 15 (.call 88 [(.tmp 14)]),qq 16 (.eqA false [.i,.s,.i,.b] (.tmp 12) (.tmp 15)),qm 17 16,qt 17 18 (.fad 1 (.tmp 1)),qt 17 19 (.ld none (.tmp 18)),qt 17 20 (.call 55 [(.tmp 19)]),qq 21 (.pick (.tmp 17) (.tmp 20) (kb false)),qm 2 21] (.some (.br [qq 13 (.fad 1 (.tmp 1))] (.leaf [qq 12 (.ld (.some 4) (.tmp 1)),qq 14 (.ld none (.tmp 13)),qq 15 (.call 88 [(.tmp 14)]),qq 16 (.eqA false [.i,.s,.i,.b] (.tmp 12) (.tmp 15)),qm 17 16,qt 17 18 (.fad 1 (.tmp 1)),qt 17 19 (.ld none (.tmp 18)),qt 17 20 (.call 55 [(.tmp 19)]),qq 21 (.pick (.tmp 17) (.tmp 20) (kb false)),qm 2 21]) (.br [qq 14 (.ld none (.tmp 13))] (.leaf [qq 12 (.ld (.some 4) (.tmp 1)),qq 15 (.call 88 [(.tmp 14)]),qq 16 (.eqA false [.i,.s,.i,.b] (.tmp 12) (.tmp 15)),qm 17 16,qt 17 18 (.fad 1 (.tmp 1)),qt 17 19 (.ld none (.tmp 18)),qt 17 20 (.call 55 [(.tmp 19)]),qq 21 (.pick (.tmp 17) (.tmp 20) (kb false)),qm 2 21]) (.leaf [qq 15 (.call 88 [(.tmp 14)]),qq 12 (.ld (.some 4) (.tmp 1)),qq 16 (.eqA false [.i,.s,.i,.b] (.tmp 12) (.tmp 15)),qm 17 16,qt 17 18 (.fad 1 (.tmp 1)),qt 17 19 (.ld none (.tmp 18)),qt 17 20 (.call 55 [(.tmp 19)]),qq 21 (.pick (.tmp 17) (.tmp 20) (kb false)),qm 2 21]))))) .ret) (.seq (.reg [qq 23 (.bin .eql (.tmp 4) (ki 2)),qm 22 23]) (.cond (.tmp 22) (.seq (.drg [qq 24 (.ld (.some 4) (.tmp 1)),qq 25 (.fad 2 (.tmp 1)),qq 26 (.ld none (.tmp 25)),qq 27 (.call 85 [(.tmp 26)]),qq 28 (.eqA false [.i,.s,.i,.b] (.tmp 24) (.tmp 27)),qm 2 28] (.some (.br [qq 25 (.fad 2 (.tmp 1))] (.leaf [qq 24 (.ld (.some 4) (.tmp 1)),qq 26 (.ld none (.tmp 25)),qq 27 (.call 85 [(.tmp 26)]),qq 28 (.eqA false [.i,.s,.i,.b] (.tmp 24) (.tmp 27)),qm 2 28]) (.br [qq 26 (.ld none (.tmp 25))] (.leaf [qq 24 (.ld (.some 4) (.tmp 1)),qq 27 (.call 85 [(.tmp 26)]),qq 28 (.eqA false [.i,.s,.i,.b] (.tmp 24) (.tmp 27)),qm 2 28]) (.leaf [qq 27 (.call 85 [(.tmp 26)]),qq 24 (.ld (.some 4) (.tmp 1)),qq 28 (.eqA false [.i,.s,.i,.b] (.tmp 24) (.tmp 27)),qm 2 28]))))) .ret) (.seq (.reg [qq 30 (.bin .eql (.tmp 4) (ki 3)),qm 29 30]) (.cond (.tmp 29) (.seq (.drg [qq 31 (.ld (.some 4) (.tmp 1)),qq 32 (.fad 3 (.tmp 1)),qq 33 (.ld none (.tmp 32)),qq 34 (.call 86 [(.tmp 33)]),qq 35 (.eqA false [.i,.s,.i,.b] (.tmp 31) (.tmp 34)),qm 2 35] (.some (.br [qq 32 (.fad 3 (.tmp 1))] (.leaf [qq 31 (.ld (.some 4) (.tmp 1)),qq 33 (.ld none (.tmp 32)),qq 34 (.call 86 [(.tmp 33)]),qq 35 (.eqA false [.i,.s,.i,.b] (.tmp 31) (.tmp 34)),qm 2 35]) (.br [qq 33 (.ld none (.tmp 32))] (.leaf [qq 31 (.ld (.some 4) (.tmp 1)),qq 34 (.call 86 [(.tmp 33)]),qq 35 (.eqA false [.i,.s,.i,.b] (.tmp 31) (.tmp 34)),qm 2 35]) (.leaf [qq 34 (.call 86 [(.tmp 33)]),qq 31 (.ld (.some 4) (.tmp 1)),qq 35 (.eqA false [.i,.s,.i,.b] (.tmp 31) (.tmp 34)),qm 2 35]))))) .ret) .skip)))))))))) (.seq (.reg [qq 2 (.mv (kb false))]) .ret)))
theorem k76:conv Tryz.prog 36 (Tryz.f76.body.getD .skip)=c76:=by kernel_rfl
theorem in76 {a0:Value} {w:World} {R:Value→World→Prop} (h:G Tryz.prog Tryz.f76 36 [.c c76] R (frL 0 [a0]) w):Ret Tryz.prog 76 #[a0] w R:=G.enter (args:=[a0]) Tryz.func76 (c:=Tryz.f76.body.getD .skip) (by kernel_rfl) (by kernel_rfl) (by simp) k76 h
theorem right17_spec (v:Val) (w:World) (hl:v.s.length≤1000000):Pu Tryz.prog 76 #[(.agg #[I v.kind,S v.s,I v.n,.bool v.b])] w (.bool (rightM v)):=by
  refine in76 ?_
  have hS:=Sep.start w
  repeat' (first|((with_reducible apply G.a);exact rfl)|refine G.reg fun K hK=>?_|(with_reducible (refine hK _ _ ?_);clear hK K)|(with_reducible (refine hK _ ?_);clear hK K;intro wd hxd;have hS:=Sep.xx hxd)|((first|have hk:=hK|have hk:=hK2);clear hk;simp (disch:=first|exact dis|fail) only [push_cast,↓reduceIte,zq1,zq2,zq3,zq4,zq5,fct])|((first|refine brO_n ?_ ?_|refine brQ_n ?_ ?_)<;>intro hb hc<;>first|(with_reducible exact False.elim hc)|(exfalso;omega)|(simp only [hb];clear hb))|(((with_reducible refine gBox ?_);refine zbox ?_);intro gb wb hS)|(refine zcp 88 (text17_spec _ _) ?_;intro wb hS)|(refine zcp 85 (int17_spec _ _) ?_;intro wb hS)|(refine zcp 86 (bool17_spec _ _) ?_;intro wb hS)|(refine zcp 55 (valid_spec _ _ (by omega)) ?_;intro wb hS)|(refine G.drt mixed fun K hK wd hxd=>?_;have hS:=Sep.xx hxd)|with_reducible refine OT_leaf ?_|(with_reducible (refine hK2 _ ?_);clear hK2 K2;intro wd hxd;have hS:=Sep.xx hxd)|with_reducible refine OT_br fun K2 hK2=>?_|(refine hK2 _ _ ?_ ?_<;>clear hK2 K2)|refine G.drg mixed fun K hK=>?_|(refine G.cn ?_ ?_<;>intro hc<;>first|(with_reducible exact False.elim hc)|(exfalso;omega)|skip))
  all_goals
    (first|refine G.r1 ?_|refine G.r2 ?_|refine G.r3 ?_|refine G.r0 ?_|refine G.d0 ?_);(try simp (disch:=first|exact dis|fail) only [push_cast,↓reduceIte,zq1,zq2,zq3,zq4,zq5,fct])
    refine ⟨?_,Sep.xt (by assumption)⟩
    clear hS
    congr 1
    rw [Bool.eq_iff_iff,right_iff]
    first|(simp_all;done)|grind
def c46:MC:=(.seq (.reg [qq 1 (.raw (.box 120 (.tmp 0)) 0),qq 2 (.mv (kb false))]) (.seq (.seq (.reg [qq 3 (.fad 0 (.tmp 1)),qq 4 (.ld none (.tmp 3)),qq 5 (.bin .lss (.tmp 4) (ki 0)),qm 6 5,qf 6 7 (.fad 0 (.tmp 1)),qf 6 8 (.ld none (.tmp 7)),qf 6 9 (.bin .gtr (.tmp 8) (ki 3)),qq 10 (.pick (.tmp 6) (kb true) (.tmp 9)),qm 11 10,qf 11 12 (.fad 0 (.tmp 1)),qf 11 13 (.ld none (.tmp 12)),qf 11 14 (.bin .neq (.tmp 13) (ki 1)),qmf 11 15 14,qt 15 16 (.fad 1 (.tmp 1)),qt 15 17 (.ld none (.tmp 16)),qt 15 18 (.bin .neq (.tmp 17) (.const (S []))),qf 11 19 (.pick (.tmp 15) (.tmp 18) (kb false)),qq 20 (.pick (.tmp 11) (kb true) (.tmp 19)),qm 21 20,qf 21 22 (.fad 0 (.tmp 1)),qf 21 23 (.ld none (.tmp 22)),qf 21 24 (.bin .neq (.tmp 23) (ki 2)),qmf 21 25 24,qt 25 26 (.fad 2 (.tmp 1)),qt 25 27 (.ld none (.tmp 26)),qt 25 28 (.bin .neq (.tmp 27) (ki 0)),qf 21 29 (.pick (.tmp 25) (.tmp 28) (kb false)),qq 30 (.pick (.tmp 21) (kb true) (.tmp 29)),qm 31 30,qf 31 32 (.fad 0 (.tmp 1)),qf 31 33 (.ld none (.tmp 32)),qf 31 34 (.bin .neq (.tmp 33) (ki 3)),qmf 31 35 34,qt 35 36 (.fad 3 (.tmp 1)),qt 35 37 (.ld none (.tmp 36)),qt 35 38 (.bin .neq (.tmp 37) (ki 0)),qf 31 39 (.pick (.tmp 35) (.tmp 38) (kb false)),qq 40 (.pick (.tmp 31) (kb true) (.tmp 39))]) (.cond (.tmp 40) (.seq (.reg [qq 2 (.mv (kb false))]) .ret) .skip)) (.seq (.drg [qq 41 (.fad 1 (.tmp 1)),qq 42 (.ld none (.tmp 41)),qq 43 (.call 66 [(.tmp 42)]),qq 44 (.fad 1 (.tmp 1)),qq 45 (.ld none (.tmp 44)),qq 46 (.lenS (.tmp 45)),qq 47 (.bin .eql (.tmp 43) (.tmp 46)),qm 2 47] (.some (.br [qq 41 (.fad 1 (.tmp 1)),qq 44 (.fad 1 (.tmp 1))] (.br [qq 42 (.ld none (.tmp 41))] (.leaf [qq 43 (.call 66 [(.tmp 42)]),qq 45 (.ld none (.tmp 44)),qq 46 (.lenS (.tmp 45)),qq 47 (.bin .eql (.tmp 43) (.tmp 46)),qm 2 47]) (.leaf [qq 45 (.ld none (.tmp 44)),qq 46 (.lenS (.tmp 45)),qq 43 (.call 66 [(.tmp 42)]),qq 47 (.bin .eql (.tmp 43) (.tmp 46)),qm 2 47])) (.leaf [qq 45 (.ld none (.tmp 44)),qq 46 (.lenS (.tmp 45)),qq 42 (.ld none (.tmp 41)),qq 43 (.call 66 [(.tmp 42)]),qq 47 (.bin .eql (.tmp 43) (.tmp 46)),qm 2 47])))) .ret)))
theorem k46:conv Tryz.prog 48 (Tryz.f46.body.getD .skip)=c46:=by kernel_rfl
theorem in46 {a0:Value} {w:World} {R:Value→World→Prop} (h:G Tryz.prog Tryz.f46 48 [.c c46] R (frL 0 [a0]) w):Ret Tryz.prog 46 #[a0] w R:=G.enter (args:=[a0]) Tryz.func46 (c:=Tryz.f46.body.getD .skip) (by kernel_rfl) (by kernel_rfl) (by simp) k46 h
theorem rright17_spec (v:Val) (w:World) (hl:v.s.length≤1000000):Pu Tryz.prog 46 #[(.agg #[I v.kind,S v.s,I v.n,I (if v.b=true then 1 else 0)])] w (.bool (rightM v)):=by
  refine in46 ?_
  have hS:=Sep.start w
  have hw:((wholeM v.s:Int) == v.s.length)=validM v.s:=by rw [(bads v.s).2.1,Bool.eq_iff_iff];simp;omega
  have hnil:v.s=[]→validM v.s=true:=fun e=>by rw [e];rfl
  repeat' (first|((with_reducible apply G.a);exact rfl)|refine G.reg fun K hK=>?_|(with_reducible (refine hK _ _ ?_);clear hK K)|(with_reducible (refine hK _ ?_);clear hK K;intro wd hxd;have hS:=Sep.xx hxd)|((first|have hk:=hK|have hk:=hK2);clear hk;simp (disch:=first|exact dis|fail) only [push_cast,↓reduceIte,zq1,zq2,zq3,zq4,zq5,fct])|((first|refine brO_n ?_ ?_|refine brQ_n ?_ ?_)<;>intro hb hc<;>first|(with_reducible exact False.elim hc)|(exfalso;omega)|(simp only [hb];clear hb))|(((with_reducible refine gBox ?_);refine zbox ?_);intro gb wb hS)|(refine zcp 66 (whole_spec _ _ (by omega)) ?_;intro wb hS)|(refine G.drt mixed fun K hK wd hxd=>?_;have hS:=Sep.xx hxd)|with_reducible refine OT_leaf ?_|(with_reducible (refine hK2 _ ?_);clear hK2 K2;intro wd hxd;have hS:=Sep.xx hxd)|with_reducible refine OT_br fun K2 hK2=>?_|(refine hK2 _ _ ?_ ?_<;>clear hK2 K2)|refine G.drg mixed fun K hK=>?_|(refine G.cn ?_ ?_<;>intro hc<;>first|(with_reducible exact False.elim hc)|(exfalso;omega)|skip))
  all_goals
    (have fct:=@hw;(first|refine G.r1 ?_|refine G.r2 ?_|refine G.r3 ?_|refine G.r0 ?_|refine G.d0 ?_);(try simp (disch:=first|exact dis|fail) only [push_cast,↓reduceIte,zq1,zq2,zq3,zq4,zq5,fct]);(try clear fct))
    refine ⟨?_,Sep.xt (by assumption)⟩
    clear hS hw
    congr 1
    rw [Bool.eq_iff_iff,right_iff]
    generalize validM v.s=q at *
    first|(simp_all;done)|grind
theorem hpre0_spec (s:Str) (c:UInt8) (w:World) (hl:s.length≤1000000000):Pu Tryz.prog 97 #[S s,S [c]] w (.bool (decide (s.take 1=[c]))):=by
  have h:=hp_spec s [c] w hl (by simp)
  have e:(s.take [c].length == [c])=decide (s.take 1=[c]):=by rw [Bool.eq_iff_iff];simp
  rw [e] at h;exact h
theorem hpre_spec (s:Str) (c:UInt8) (w:World) (hl:s.length≤1000000000):Pu Tryz.prog 78 #[S s,S [c]] w (.bool (decide (s.take 1=[c]))):=by
  have h:=shp_spec s [c] w hl (by simp)
  have e:(s.take [c].length == [c])=decide (s.take 1=[c]):=by rw [Bool.eq_iff_iff];simp
  rw [e] at h;exact h
def i64M (n:Int):Prop:=-9223372036854775808≤n∧n≤9223372036854775807
def c47:MC:=(.seq (.reg [qq 1 (.raw (.box 84 (.tmp 0)) 0),qq 2 (.alc 120 [(.int .i64 0),(S []),(.int .i64 0),(.int .i64 0)])]) (.seq (.reg [qq 4 (.fad 0 (.tmp 1)),qq 5 (.ld none (.tmp 4)),qq 6 (.fad 1 (.tmp 1)),qq 7 (.ld none (.tmp 6)),qq 8 (.fad 2 (.tmp 1)),qq 9 (.ld none (.tmp 8)),qq 10 (.bld [(.int .i64 0),(S []),(.int .i64 0),(.int .i64 0)] [⟨0,⟨1,(.tmp 5)⟩⟩,⟨1,⟨1,(.tmp 7)⟩⟩,⟨2,⟨1,(.tmp 9)⟩⟩]),qq 3 (.alc 120 [(.int .i64 0),(S []),(.int .i64 0),(.int .i64 0)]),qn (.st 4 (.tmp 3) (.tmp 10))]) (.seq (.seq (.reg [qq 11 (.fad 3 (.tmp 1)),qq 12 (.ld none (.tmp 11))]) (.cond (.tmp 12) (.reg [qq 13 (.fad 3 (.tmp 3)),qn (.st 1 (.tmp 13) (ki 1))]) .skip)) (.seq (.reg [qq 14 (.ld (.some 4) (.tmp 3)),qn (.st 4 (.tmp 2) (.tmp 14))]) .ret))))
theorem k47:conv Tryz.prog 15 (Tryz.f47.body.getD .skip)=c47:=by kernel_rfl
theorem in47 {a0:Value} {w:World} {R:Value→World→Prop} (h:G Tryz.prog Tryz.f47 15 [.c c47] R (frL 0 [a0]) w):Ret Tryz.prog 47 #[a0] w R:=G.enter (args:=[a0]) Tryz.func47 (c:=Tryz.f47.body.getD .skip) (by kernel_rfl) (by kernel_rfl) (by simp) k47 h
theorem ref17_spec (v:Val) (w:World):Pu Tryz.prog 47 #[(.agg #[I v.kind,S v.s,I v.n,.bool v.b])] w (.agg #[I v.kind,S v.s,I v.n,I (if v.b=true then 1 else 0)]):=by
  refine in47 ?_
  have hS:=Sep.start w
  repeat' (first|((with_reducible apply G.a);exact rfl)|refine G.reg fun K hK=>?_|(with_reducible (refine hK _ _ ?_);clear hK K)|(have hk:=hK;clear hk;simp (disch:=first|exact dis|fail) only [push_cast,↓reduceIte,zq1,zq2,zq3,zq4,zq5,fct])|((first|refine zalc ?_|((with_reducible refine gBox ?_);refine zbox ?_));intro gb wb hS)|((with_reducible refine gSt ?_);refine zs2 ?_;intro wb hS)|(refine G.cn ?_ ?_<;>intro hc<;>first|(with_reducible exact False.elim hc)|(exfalso;omega)|skip))
  all_goals
    (first|refine G.r1 ?_|refine G.r2 ?_|refine G.r3 ?_|refine G.r0 ?_|refine G.d0 ?_);(try simp (disch:=first|exact dis|fail) only [push_cast,↓reduceIte,zq1,zq2,zq3,zq4,zq5,fct])
    refine ⟨?_,Sep.xt (by assumption)⟩
    simp [hc]
end Go.Proofs.YtjajihaeoolefaaGreatDoor
namespace Go.Proofs.YtjajihaeoolefaaGreatDoor
open Nat renaming reduceAdd→zq1,reduceLeDiff→zq2,reduceEqDiff→zq3,reduceLT→zq4
open Int renaming reduceToNat→zq5
set_option linter.unusedSimpArgs false
set_option linter.unusedVariables false
attribute [local irreducible] SemK UnitK StK AlcK BslK CallK CallV Instr.box Builtin.append_ Instr.makeSlice Instr.makeMap Instr.lookup Instr.mapUpdate Instr.sliceAt convert
open Go.RowKit
def c77:MC:=(.seq (.reg [qq 2 (.mv (.const (S [])))]) (.seq (.reg [qm 3 0,qq 4 (.call 96 [(.tmp 3),(ki 10)]),qm 2 4]) .ret))
theorem k77:conv Tryz.prog 5 (Tryz.f77.body.getD .skip)=c77:=by kernel_rfl
theorem in77 {a0:Value} {w:World} {R:Value→World→Prop} (h:G Tryz.prog Tryz.f77 5 [.c c77] R (frL 0 [a0]) w):Ret Tryz.prog 77 #[a0] w R:=G.enter (args:=[a0]) Tryz.func77 (c:=Tryz.f77.body.getD .skip) (by kernel_rfl) (by kernel_rfl) (by simp) k77 h
theorem print_spec (n:Int) (w:World) (hn:i64M n) (ht:Tab w):Pu Tryz.prog 77 #[I n] w (S (Lib.itoa n)):=by
  refine in77 ?_
  have hS:=Sep.start w
  repeat' (first|((with_reducible apply G.a);exact rfl)|refine G.reg fun K hK=>?_|(with_reducible (refine hK _ _ ?_);clear hK K)|(have hk:=hK;clear hk;simp (disch:=first|exact dis|fail) only [push_cast,↓reduceIte,zq1,zq2,zq3,zq4,zq5,fct])|(refine zcp 96 (fi_spec n _ hn.1 hn.2 (ht.ext hS.x)) ?_;intro wb hS))
  (first|refine G.r1 ?_|refine G.r2 ?_|refine G.r3 ?_|refine G.r0 ?_|refine G.d0 ?_);(try simp (disch:=first|exact dis|fail) only [push_cast,↓reduceIte,zq1,zq2,zq3,zq4,zq5,fct])
  (first|exact Sep.xt (by assumption)|exact ⟨rfl,Sep.xt (by assumption)⟩)
theorem enc_fin {a:Str} {n:Int} {p:Str×Int} (h:p=(a,n)):Value.tuple #[S a,.int .i64 n]=.tuple #[S p.1,I p.2]:=by rw [h]
def c58:MC:=(.seq (.reg [qq 2 (.raw (.box 84 (.tmp 0)) 0),qq 3 (.raw (.box 74 (.tmp 1)) 0),qq 4 (.mv (.const (S []))),qq 5 (.mv (ki 0))]) (.seq (.seq (.reg [qq 6 (.fad 1 (.tmp 3)),qq 7 (.ld none (.tmp 6)),qq 8 (.call 75 [(.tmp 7)]),qq 9 (.un .not (.tmp 8))]) (.cond (.tmp 9) (.seq (.reg [qq 4 (.mv (.const (S []))),qq 5 (.mv (ki 22))]) .ret) .skip)) (.seq (.seq (.reg [qq 10 (.ld (.some 4) (.tmp 2)),qq 11 (.call 76 [(.tmp 10)]),qq 12 (.un .not (.tmp 11)),qm 13 12,qf 13 14 (.fad 0 (.tmp 2)),qf 13 15 (.ld none (.tmp 14)),qf 13 16 (.bin .neq (.tmp 15) (ki 0)),qmf 13 17 16,qt 17 18 (.fad 0 (.tmp 2)),qt 17 19 (.ld none (.tmp 18)),qt 17 20 (.fad 1 (.tmp 3)),qt 17 21 (.ld none (.tmp 20)),qt 17 22 (.bin .neq (.tmp 19) (.tmp 21)),qf 13 23 (.pick (.tmp 17) (.tmp 22) (kb false)),qq 24 (.pick (.tmp 13) (kb true) (.tmp 23))]) (.cond (.tmp 24) (.seq (.reg [qq 4 (.mv (.const (S []))),qq 5 (.mv (ki 21))]) .ret) .skip)) (.seq (.seq (.reg [qq 25 (.fad 0 (.tmp 2)),qq 26 (.ld none (.tmp 25))]) (.blk 0 (.seq (.reg [qq 28 (.bin .eql (.tmp 26) (ki 0)),qm 27 28]) (.cond (.tmp 27) (.seq (.seq (.reg [qq 29 (.fad 2 (.tmp 3)),qq 30 (.ld none (.tmp 29)),qq 31 (.un .not (.tmp 30))]) (.cond (.tmp 31) (.seq (.reg [qq 4 (.mv (.const (S []))),qq 5 (.mv (ki 20))]) .ret) .skip)) (.seq (.reg [qq 4 (.mv (.const (S []))),qq 5 (.mv (ki 0))]) .ret)) (.seq (.reg [qq 33 (.bin .eql (.tmp 26) (ki 2)),qm 32 33]) (.cond (.tmp 32) (.seq (.reg [qq 34 (.fad 2 (.tmp 2)),qq 35 (.ld none (.tmp 34)),qq 36 (.call 77 [(.tmp 35)]),qm 4 36,qq 5 (.mv (ki 0))]) .ret) (.seq (.reg [qq 38 (.bin .eql (.tmp 26) (ki 3)),qm 37 38]) (.cond (.tmp 37) (.seq (.seq (.reg [qq 39 (.fad 3 (.tmp 2)),qq 40 (.ld none (.tmp 39))]) (.cond (.tmp 40) (.seq (.reg [qq 4 (.mv (.const (S [116,114,117,101]))),qq 5 (.mv (ki 0))]) .ret) .skip)) (.seq (.reg [qq 4 (.mv (.const (S [102,97,108,115,101]))),qq 5 (.mv (ki 0))]) .ret)) .skip)))))))) (.seq (.seq (.reg [qq 41 (.fad 2 (.tmp 3)),qq 42 (.ld none (.tmp 41)),qm 43 42,qt 43 44 (.fad 1 (.tmp 2)),qt 43 45 (.ld none (.tmp 44)),qt 43 46 (.bin .eql (.tmp 45) (.const (S []))),qmt 43 47 46,qf 47 48 (.fad 1 (.tmp 2)),qf 47 49 (.ld none (.tmp 48)),qf 47 50 (.call 78 [(.tmp 49),(.const (S [92]))]),qt 43 51 (.pick (.tmp 47) (kb true) (.tmp 50)),qq 52 (.pick (.tmp 43) (.tmp 51) (kb false))]) (.cond (.tmp 52) (.seq (.reg [qq 53 (.fad 1 (.tmp 2)),qq 54 (.ld none (.tmp 53)),qq 55 (.bin .add (.const (S [92])) (.tmp 54)),qm 4 55,qq 5 (.mv (ki 0))]) .ret) .skip)) (.seq (.reg [qq 56 (.fad 1 (.tmp 2)),qq 57 (.ld none (.tmp 56)),qm 4 57,qq 5 (.mv (ki 0))]) .ret))))))
theorem k58:conv Tryz.prog 58 (Tryz.f58.body.getD .skip)=c58:=by kernel_rfl
theorem in58 {a0 a1:Value} {w:World} {R:Value→World→Prop} (h:G Tryz.prog Tryz.f58 58 [.c c58] R (frL 0 [a0,a1]) w):Ret Tryz.prog 58 #[a0,a1] w R:=G.enter (args:=[a0,a1]) Tryz.func58 (c:=Tryz.f58.body.getD .skip) (by kernel_rfl) (by kernel_rfl) (by simp) k58 h
theorem enc_spec (v:Val) (nm:Str) (k:Int) (nl:Bool) (w:World) (hl:v.s.length≤1000000) (hn:i64M v.n) (ht:Tab w) :
    Pu Tryz.prog 58 #[(.agg #[I v.kind,S v.s,I v.n,.bool v.b]),.agg #[S nm,I k,.bool nl]] w (.tuple #[S (encM v k nl).1,I (encM v k nl).2]):=by
  refine in58 ?_
  have hS:=Sep.start w
  unfold encM
  by_cases hk:1≤k∧k≤3
  · rw [if_neg (not_not_intro hk)]
    repeat' (first|((with_reducible apply G.a);exact rfl)|refine G.reg fun K hK=>?_|(with_reducible (refine hK _ _ ?_);clear hK K)|(with_reducible (refine hK _ ?_);clear hK K;intro wd hxd;have hS:=Sep.ext (by assumption) hxd)|((first|have hk:=hK|have hk:=hK2);clear hk;simp (disch:=(first|exact dis|fail)) only [push_cast,↓reduceIte,zq1,zq2,zq3,zq4,zq5,decide_eq_true hk])|((first|refine brO_mk ?_ ?_|refine brQ_mk ?_ ?_)<;>intro hb<;>(try simp only [Bool.not_eq_true',Bool.not_eq_false'] at hb)<;>have hc:=hb<;>(try simp only [hcs,reduceCtorEq] at hc)<;>(try (exfalso;omega))<;>simp only [hb]<;>clear hb)|(refine zalc ?_;intro gb wb hS)|(refine zbsl ?_;intro gb wb hS)|((with_reducible (show SemK _ (Instr.box _ _) _ _ _ _));refine zbox ?_;intro gb wb hS)|((with_reducible (show StK _ _ (Value.pointer _) _ _ _ _ _));refine zst ?_;intro wb hS;(try simp only [sets] at hS))|(refine zcv ?_)|(refine zcp 75 (known_spec k _) ?_;intro wb hS)|(refine zcp 76 (right17_spec v _ hl) ?_;intro wb hS)|(refine zcp 77 (print_spec v.n _ hn (ht.ext hS.x)) ?_;intro wb hS)|(refine zcp 78 (hpre_spec v.s 92 _ (by omega)) ?_;intro wb hS)|(refine G.drt mixed fun K hK wd hxd=>?_;have hS:=Sep.ext (by assumption) hxd)|with_reducible refine OT_leaf ?_|(with_reducible refine OT_tail fun K2 hK2=>?_)|(with_reducible (refine hK2 _ ?_);clear hK2 K2;intro wd hxd;have hS:=Sep.ext (by assumption) hxd)|with_reducible refine OT_br fun K2 hK2=>?_|(refine hK2 _ _ ?_ ?_<;>clear hK2 K2)|refine G.drg mixed fun K hK=>?_|(refine G.cond (by simp only [push_cast,↓reduceIte,zq1,zq2,zq3,zq4,zq5,decide_eq_true hk];rfl) ?_ ?_<;>intro hc<;>(try simp only [hcs,reduceCtorEq] at hc)<;>(try (exfalso;omega))))
    all_goals
      (first|refine G.r1 ?_|refine G.r2 ?_|refine G.r3 ?_|refine G.r0 ?_|refine G.d0 ?_);(try simp (disch:=first|exact dis|fail) only [push_cast,↓reduceIte,zq1,zq2,zq3,zq4,zq5,fct])
      refine ⟨enc_fin ?_,Sep.xt (by assumption)⟩
      clear hS
      first|(simp_all [mkdM];done)|grind [mkdM]
  · rw [if_pos hk]
    repeat' (first|((with_reducible apply G.a);exact rfl)|refine G.reg fun K hK=>?_|(with_reducible (refine hK _ _ ?_);clear hK K)|(with_reducible (refine hK _ ?_);clear hK K;intro wd hxd;have hS:=Sep.ext (by assumption) hxd)|((first|have hk:=hK|have hk:=hK2);clear hk;simp (disch:=(first|exact dis|fail)) only [push_cast,↓reduceIte,zq1,zq2,zq3,zq4,zq5,decide_eq_false hk])|((first|refine brO_mk ?_ ?_|refine brQ_mk ?_ ?_)<;>intro hb<;>(try simp only [Bool.not_eq_true',Bool.not_eq_false'] at hb)<;>have hc:=hb<;>(try simp only [hcs,reduceCtorEq] at hc)<;>(try (exfalso;omega))<;>simp only [hb]<;>clear hb)|(refine zalc ?_;intro gb wb hS)|(refine zbsl ?_;intro gb wb hS)|((with_reducible (show SemK _ (Instr.box _ _) _ _ _ _));refine zbox ?_;intro gb wb hS)|((with_reducible (show StK _ _ (Value.pointer _) _ _ _ _ _));refine zst ?_;intro wb hS;(try simp only [sets] at hS))|(refine zcv ?_)|(refine zcp 75 (known_spec k _) ?_;intro wb hS)|(refine G.drt mixed fun K hK wd hxd=>?_;have hS:=Sep.ext (by assumption) hxd)|with_reducible refine OT_leaf ?_|(with_reducible refine OT_tail fun K2 hK2=>?_)|(with_reducible (refine hK2 _ ?_);clear hK2 K2;intro wd hxd;have hS:=Sep.ext (by assumption) hxd)|with_reducible refine OT_br fun K2 hK2=>?_|(refine hK2 _ _ ?_ ?_<;>clear hK2 K2)|refine G.drg mixed fun K hK=>?_|(refine G.cond (by simp only [push_cast,↓reduceIte,zq1,zq2,zq3,zq4,zq5,decide_eq_false hk];rfl) ?_ ?_<;>intro hc<;>(try simp only [hcs,reduceCtorEq] at hc)<;>(try (exfalso;omega))))
    (first|refine G.r1 ?_|refine G.r2 ?_|refine G.r3 ?_|refine G.r0 ?_|refine G.d0 ?_);(try simp (disch:=first|exact dis|fail) only [push_cast,↓reduceIte,zq1,zq2,zq3,zq4,zq5,fct])
    (first|exact Sep.xt (by assumption)|exact ⟨rfl,Sep.xt (by assumption)⟩)
end Go.Proofs.YtjajihaeoolefaaGreatDoor
namespace Go.Proofs.YtjajihaeoolefaaGreatDoor
open Nat renaming reduceAdd→zq1,reduceLeDiff→zq2,reduceEqDiff→zq3,reduceLT→zq4
open Int renaming reduceToNat→zq5
set_option linter.unusedSimpArgs false
set_option linter.unusedVariables false
attribute [local irreducible] SemK UnitK StK AlcK BslK CallK CallV Instr.box Builtin.append_ Instr.makeSlice Instr.makeMap Instr.lookup Instr.mapUpdate Instr.sliceAt convert
open Go.RowKit
theorem nz (c:Bool):(if c=true then (-1:Int) else 1)≠0:=by cases c<;>simp
end Go.Proofs.YtjajihaeoolefaaGreatDoor
namespace Go.Proofs.YtjajihaeoolefaaGreatDoor
open Nat renaming reduceAdd→zq1,reduceLeDiff→zq2,reduceEqDiff→zq3,reduceLT→zq4
open Int renaming reduceToNat→zq5
set_option linter.unusedSimpArgs false
set_option linter.unusedVariables false
attribute [local irreducible] SemK UnitK StK AlcK BslK CallK CallV Instr.box Builtin.append_ Instr.makeSlice Instr.makeMap Instr.lookup Instr.mapUpdate Instr.sliceAt convert
open Go.RowKit
def eW:Enc Val:=⟨4,fun v=>[I v.kind,S v.s,I v.n,.bool v.b],fun _=>rfl⟩
instance : EncSz eW 4 := ⟨rfl⟩
end Go.Proofs.YtjajihaeoolefaaGreatDoor
