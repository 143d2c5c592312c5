/- Texts of the proof, joined. -/
import Derived.Test.YtjajihaeoolefaaGreatDoorBW15
import Derived.Test.YtjajihaeoolefaaGreatDoorBBi
namespace Go.Proofs.YtjajihaeoolefaaGreatDoor
open Nat renaming reduceAdd→zq1,reduceLeDiff→zq2,reduceEqDiff→zq3,reduceLT→zq4
open Int renaming reduceToNat→zq5
set_option linter.unusedSimpArgs false
set_option linter.unusedVariables false
attribute [local irreducible] SemK UnitK StK AlcK BslK CallK CallV Instr.box Builtin.append_ Instr.makeSlice Instr.makeMap Instr.lookup Instr.mapUpdate Instr.sliceAt convert
open Go.RowKit
def vC (c:Col):Value:=.agg #[S c.name,I c.kind,.bool c.null]
end Go.Proofs.YtjajihaeoolefaaGreatDoor
namespace Go.Proofs.YtjajihaeoolefaaGreatDoor
open Nat renaming reduceAdd→zq1,reduceLeDiff→zq2,reduceEqDiff→zq3,reduceLT→zq4
open Int renaming reduceToNat→zq5
set_option linter.unusedSimpArgs false
set_option linter.unusedVariables false
attribute [local irreducible] SemK UnitK StK AlcK BslK CallK CallV Instr.box Builtin.append_ Instr.makeSlice Instr.makeMap Instr.lookup Instr.mapUpdate Instr.sliceAt convert
open Go.RowKit
noncomputable def eqD {α:Type} (a b:α):Bool:=@decide (a=b) (Classical.propDecidable _)
def fndM (l:List Col) (s:Str):Col×Int×Bool:=if 0≤atM (namesC l) s then (l.getD (atM (namesC l) s).toNat default,atM (namesC l) s,true) else (default,0,false)
def c20l1:MC:=(.seq (.reg [qq 12 (.bin .lss (.tmp 11) (.tmp 10))]) (.seq (.cond (.tmp 12) .skip (.exit 0)) (.seq (.blk 1 (.seq (.reg [qm 13 11,qq 14 (.adr 3 (.tmp 9) (.tmp 11)),qq 15 (.ld (.some 3) (.tmp 14)),qq 8 (.alc 74 [(S []),(.int .i64 0),(.bool false)]),qm 7 13,qn (.st 3 (.tmp 8) (.tmp 15))]) (.seq (.reg [qq 16 (.fad 0 (.tmp 8)),qq 17 (.ld none (.tmp 16)),qm 18 1,qq 19 (.bin .eql (.tmp 17) (.tmp 18))]) (.cond (.tmp 19) (.seq (.reg [qq 20 (.ld (.some 3) (.tmp 8)),qm 21 7,qn (.st 3 (.tmp 4) (.tmp 20)),qm 5 21,qq 6 (.mv (kb true))]) .ret) .skip)))) (.reg [qq 22 (.bin .add (.tmp 11) (ki 1)),qm 11 22]))))
def c20:MC:=(.seq (.reg [qq 4 (.alc 74 [(S []),(.int .i64 0),(.bool false)]),qq 5 (.mv (ki 0)),qq 6 (.mv (kb false))]) (.seq (.seq (.reg [qm 9 0,qq 10 (.len (.tmp 9)),qq 11 (.mv (ki 0))]) (.blk 0 (.loop c20l1))) (.seq (.reg [qq 23 (.bld [(S []),(.int .i64 0),(.bool false)] []),qn (.st 3 (.tmp 4) (.tmp 23)),qq 5 (.mv (ki 0)),qq 6 (.mv (kb false))]) .ret)))
theorem k20:conv Tryz.prog 24 (Tryz.f20.body.getD .skip)=c20:=by kernel_rfl
theorem in20 {a0 a1:Value} {w:World} {R:Value→World→Prop} (h:G Tryz.prog Tryz.f20 24 [.c c20] R (frL 0 [a0,a1]) w):Ret Tryz.prog 20 #[a0,a1] w R:=G.enter (args:=[a0,a1]) Tryz.func20 (c:=Tryz.f20.body.getD .skip) (by kernel_rfl) (by kernel_rfl) (by simp) k20 h
theorem find_spec {v:Value} {l:List Col} {w:World} (hr:Rd w eC v l) (name:Str):Pu Tryz.prog 20 #[v,S name] w (.tuple #[vC (fndM l name).1,I (fndM l name).2.1,.bool (fndM l name).2.2]):=by
  refine in20 ?_
  have hS:=Sep.start w
  have hbd:=hr.bd
  repeat' (first|((with_reducible apply G.a);exact rfl)|refine G.reg fun K hK=>?_|(with_reducible (refine hK _ _ ?_);clear hK K)|(have hk:=hK;clear hk;simp (disch:=first|exact dis|fail) only [push_cast,↓reduceIte,zq1,zq2,zq3,zq4,zq5,fct])|(refine zalc ?_;intro gb wb hS)|((with_reducible refine gSt ?_);refine zs2 ?_;intro wb hS)|(refine G.cn ?_ ?_<;>intro hc<;>first|(with_reducible exact False.elim hc)|(exfalso;omega)|skip))
  refine G.loop (fun r w'=>∃ k:Nat,k≤l.length∧r 11=I k∧r 10=I l.length∧r 9=v∧r 1=S name∧r 4=.pointer (some ⟨gb,0,none⟩)∧atM (namesC l) name=atF ((namesC l).drop k) name k∧Sep w w' [boxC gb 74 [S [],I 0,.bool false]]) (fun r _=>l.length - toN (r 11)) ?_ ?_
  · refine ⟨0,?_⟩
    ((repeat' apply And.intro)<;>first|exact dj|(simp only [push_cast,↓reduceIte,zq1,zq2,zq3,zq4,zq5]<;>omega)|skip)
    all_goals rfl
  · clear hS
    rintro u wl ⟨k,hk,h11,h10,h9,h1,h4,e,hS⟩ ih
    by_cases hlt:(k:Int) < l.length
    · have hd:(namesC l).drop k=(l.getD k default).name :: (namesC l).drop (k+1):=by unfold namesC;exact mapD (·.name) l k hlt
      rw [hd,atF] at e
      (have fct:=(And.intro @h11 (And.intro @h10 (And.intro @h9 (And.intro @h1 @h4))));repeat' (first|((with_reducible apply G.a);exact rfl)|refine G.reg fun K hK=>?_|(with_reducible (refine hK _ _ ?_);clear hK K)|(have hk:=hK;clear hk;simp (disch:=first|exact dis|fail) only [push_cast,↓reduceIte,zq1,zq2,zq3,zq4,zq5,fct])|(refine zalc ?_;intro gb wb hS)|((with_reducible refine gSt ?_);refine zs2 ?_;intro wb hS)|(refine G.cn ?_ ?_<;>intro hc<;>first|(with_reducible exact False.elim hc)|(exfalso;omega)|skip)))<;>(try clear fct)
      · (have fct:=(And.intro @h11 (And.intro @h10 (And.intro @h9 (And.intro @h1 @h4))));(first|refine G.r1 ?_|refine G.r2 ?_|refine G.r3 ?_|refine G.r0 ?_|refine G.d0 ?_);(try simp (disch:=first|exact dis|fail) only [push_cast,↓reduceIte,zq1,zq2,zq3,zq4,zq5,fct]);(try clear fct))
        rw [if_pos hc] at e
        have e2:fndM l name=(l.getD k default,(k:Int),true):=by unfold fndM;rw [e,if_pos (by omega),Int.toNat_natCast]
        rw [e2]
        (first|exact Sep.xt (by assumption)|exact ⟨rfl,Sep.xt (by assumption)⟩)
      · rw [if_neg hc] at e
        (refine ih _ _ ⟨k+1,?_⟩ ?_;rotate_left;(focus ((simp only [push_cast,↓reduceIte,zq1,zq2,zq3,zq4,zq5,toN_i,h11,h10,h9,h1,h4]<;>omega)));((repeat' apply And.intro)<;>first|exact dj|(simp only [push_cast,↓reduceIte,zq1,zq2,zq3,zq4,zq5,h11,h10,h9,h1,h4]<;>omega)|skip))
    · (have fct:=(And.intro @h11 (And.intro @h10 (And.intro @h9 (And.intro @h1 @h4))));repeat' (first|((with_reducible apply G.a);exact rfl)|refine G.reg fun K hK=>?_|(with_reducible (refine hK _ _ ?_);clear hK K)|(have hk:=hK;clear hk;simp (disch:=first|exact dis|fail) only [push_cast,↓reduceIte,zq1,zq2,zq3,zq4,zq5,fct])|(refine zalc ?_;intro gb wb hS)|((with_reducible refine gSt ?_);refine zs2 ?_;intro wb hS)|(refine G.cn ?_ ?_<;>intro hc<;>first|(with_reducible exact False.elim hc)|(exfalso;omega)|skip)))<;>(try clear fct)
      (have fct:=(And.intro @h11 (And.intro @h10 (And.intro @h9 (And.intro @h1 @h4))));(first|refine G.r1 ?_|refine G.r2 ?_|refine G.r3 ?_|refine G.r0 ?_|refine G.d0 ?_);(try simp (disch:=first|exact dis|fail) only [push_cast,↓reduceIte,zq1,zq2,zq3,zq4,zq5,fct]);(try clear fct))
      have hn:(namesC l).length=l.length:=by simp [namesC]
      rw [List.drop_eq_nil_of_le (by omega),atF] at e
      have e2:fndM l name=(default,0,false):=by unfold fndM;rw [e];rfl
      rw [e2]
      (first|exact Sep.xt (by assumption)|exact ⟨rfl,Sep.xt (by assumption)⟩)
theorem eqD_t {α:Type} {a b:α} (h:a=b):eqD a b=true:=by unfold eqD;exact @decide_eq_true _ (Classical.propDecidable _) h
theorem eqD_f {α:Type} {a b:α} (h:¬ a=b):eqD a b=false:=by unfold eqD;exact @decide_eq_false _ (Classical.propDecidable _) h
theorem col_ext {c d:Col} (h:c.name=d.name∧c.kind=d.kind∧c.null=d.null):c=d:=by cases c;cases d;simp_all
theorem rcol_ext {c d:RCol} (h:c.name=d.name∧c.kind=d.kind∧c.null=d.null):c=d:=by cases c;cases d;simp_all
theorem take_ext {α:Type} [Inhabited α] {a b:List α} {k:Nat} (hl:a.length=b.length) (hk:(k:Int) < a.length) (h:a.take k=b.take k) (he:a.getD k default=b.getD k default):a.take (k+1)=b.take (k+1):=by
  rw [takeD _ _ hk,takeD _ _ (by omega),h,he]
theorem get_ne {α:Type} [Inhabited α] {a b:List α} {k:Nat} (he:¬ a.getD k default=b.getD k default):¬ a=b:=fun h=>he (by rw [h])
def c50l1:MC:=(.seq (.reg [qq 14 (.bin .lss (.tmp 13) (.tmp 12))]) (.seq (.cond (.tmp 14) .skip (.exit 0)) (.seq (.blk 1 (.seq (.reg [qm 15 13,qm 5 15]) (.seq (.drg [qm 16 0,qm 17 5,qq 18 (.adr 3 (.tmp 16) (.tmp 17)),qq 19 (.ld (.some 3) (.tmp 18)),qm 20 1,qm 21 5,qq 22 (.adr 3 (.tmp 20) (.tmp 21)),qq 23 (.ld (.some 3) (.tmp 22)),qq 24 (.eqA true [.s,.i,.b] (.tmp 19) (.tmp 23))] none) (.cond (.tmp 24) (.seq (.reg [qq 4 (.mv (kb false))]) .ret) .skip)))) (.reg [qq 25 (.bin .add (.tmp 13) (ki 1)),qm 13 25]))))
def c50:MC:=(.seq (.reg [qq 4 (.mv (kb false))]) (.seq (.seq (.reg [qm 6 0,qq 7 (.len (.tmp 6)),qm 8 1,qq 9 (.len (.tmp 8)),qq 10 (.bin .neq (.tmp 7) (.tmp 9))]) (.cond (.tmp 10) (.seq (.reg [qq 4 (.mv (kb false))]) .ret) .skip)) (.seq (.seq (.reg [qm 11 0,qq 12 (.len (.tmp 11)),qq 13 (.mv (ki 0))]) (.blk 0 (.loop c50l1))) (.seq (.reg [qq 4 (.mv (kb true))]) .ret))))
theorem k50:conv Tryz.prog 26 (Tryz.f50.body.getD .skip)=c50:=by kernel_rfl
theorem in50 {a0 a1:Value} {w:World} {R:Value→World→Prop} (h:G Tryz.prog Tryz.f50 26 [.c c50] R (frL 0 [a0,a1]) w):Ret Tryz.prog 50 #[a0,a1] w R:=G.enter (args:=[a0,a1]) Tryz.func50 (c:=Tryz.f50.body.getD .skip) (by kernel_rfl) (by kernel_rfl) (by simp) k50 h
theorem equal_spec {va vb:Value} {a b:List Col} {w:World} (ha:Rd w eC va a) (hb:Rd w eC vb b):Pu Tryz.prog 50 #[va,vb] w (.bool (eqD a b)):=by
  refine in50 ?_
  have hS:=Sep.start w
  have hbd:=ha.bd
  have hbd2:=hb.bd
  by_cases hl:a.length=b.length
  · repeat' (first|((with_reducible apply G.a);exact rfl)|refine G.reg fun K hK=>?_|(with_reducible (refine hK _ _ ?_);clear hK K)|(with_reducible (refine hK _ ?_);clear hK K;intro wd hxd;have hS:=Sep.xx hxd)|(have hk:=hK;clear hk;simp (disch:=first|exact dis|fail) only [push_cast,↓reduceIte,zq1,zq2,zq3,zq4,zq5,fct])|refine G.drg mixed fun K hK=>?_|(refine G.cn ?_ ?_<;>intro hc<;>first|(with_reducible exact False.elim hc)|(exfalso;omega)|skip))
    refine G.loop (fun r w'=>∃ k:Nat,k≤a.length∧r 13=I k∧r 12=I a.length∧r 0=va∧r 1=vb∧a.take k=b.take k∧Sep w w' []) (fun r _=>a.length - toN (r 13)) ?_ ?_
    · refine ⟨0,?_⟩
      ((repeat' apply And.intro)<;>first|exact dj|(simp only [push_cast,↓reduceIte,zq1,zq2,zq3,zq4,zq5]<;>omega)|skip)
      all_goals rfl
    · clear hS
      rintro u wl ⟨k,hk,h13,h12,h0,h1,e,hS⟩ ih
      by_cases hlt:(k:Int) < a.length
      · (have fct:=(And.intro @h13 (And.intro @h12 (And.intro @h0 @h1)));repeat' (first|((with_reducible apply G.a);exact rfl)|refine G.reg fun K hK=>?_|(with_reducible (refine hK _ _ ?_);clear hK K)|(with_reducible (refine hK _ ?_);clear hK K;intro wd hxd;have hS:=Sep.xx hxd)|(have hk:=hK;clear hk;simp (disch:=first|exact dis|fail) only [push_cast,↓reduceIte,zq1,zq2,zq3,zq4,zq5,fct])|refine G.drg mixed fun K hK=>?_|(refine G.cn ?_ ?_<;>intro hc<;>first|(with_reducible exact False.elim hc)|(exfalso;omega)|skip)))<;>(try clear fct)
        · (have fct:=(And.intro @h13 (And.intro @h12 (And.intro @h0 @h1)));(first|refine G.r1 ?_|refine G.r2 ?_|refine G.r3 ?_|refine G.r0 ?_|refine G.d0 ?_);(try simp (disch:=first|exact dis|fail) only [push_cast,↓reduceIte,zq1,zq2,zq3,zq4,zq5,fct]);(try clear fct))
          rw [eqD_f (get_ne (k:=k) (fun h=>by rw [h] at hc;simp at hc))]
          (first|exact Sep.xt (by assumption)|exact ⟨rfl,Sep.xt (by assumption)⟩)
        · have:=take_ext hl hlt e (col_ext hc)
          (refine ih _ _ ⟨k+1,?_⟩ ?_;rotate_left;(focus ((simp only [push_cast,↓reduceIte,zq1,zq2,zq3,zq4,zq5,toN_i,h13,h12,h0,h1]<;>omega)));((repeat' apply And.intro)<;>first|exact dj|(simp only [push_cast,↓reduceIte,zq1,zq2,zq3,zq4,zq5,h13,h12,h0,h1]<;>omega)|skip))
      · (have fct:=(And.intro @h13 (And.intro @h12 (And.intro @h0 @h1)));repeat' (first|((with_reducible apply G.a);exact rfl)|refine G.reg fun K hK=>?_|(with_reducible (refine hK _ _ ?_);clear hK K)|(with_reducible (refine hK _ ?_);clear hK K;intro wd hxd;have hS:=Sep.xx hxd)|(have hk:=hK;clear hk;simp (disch:=first|exact dis|fail) only [push_cast,↓reduceIte,zq1,zq2,zq3,zq4,zq5,fct])|refine G.drg mixed fun K hK=>?_|(refine G.cn ?_ ?_<;>intro hc<;>first|(with_reducible exact False.elim hc)|(exfalso;omega)|skip)))<;>(try clear fct)
        (have fct:=(And.intro @h13 (And.intro @h12 (And.intro @h0 @h1)));(first|refine G.r1 ?_|refine G.r2 ?_|refine G.r3 ?_|refine G.r0 ?_|refine G.d0 ?_);(try simp (disch:=first|exact dis|fail) only [push_cast,↓reduceIte,zq1,zq2,zq3,zq4,zq5,fct]);(try clear fct))
        rw [List.take_of_length_le (by omega),List.take_of_length_le (by omega)] at e
        rw [eqD_t e]
        (first|exact Sep.xt (by assumption)|exact ⟨rfl,Sep.xt (by assumption)⟩)
  · repeat' (first|((with_reducible apply G.a);exact rfl)|refine G.reg fun K hK=>?_|(with_reducible (refine hK _ _ ?_);clear hK K)|(with_reducible (refine hK _ ?_);clear hK K;intro wd hxd;have hS:=Sep.xx hxd)|(have hk:=hK;clear hk;simp (disch:=first|exact dis|fail) only [push_cast,↓reduceIte,zq1,zq2,zq3,zq4,zq5,fct])|refine G.drg mixed fun K hK=>?_|(refine G.cn ?_ ?_<;>intro hc<;>first|(with_reducible exact False.elim hc)|(exfalso;omega)|skip))
    (first|refine G.r1 ?_|refine G.r2 ?_|refine G.r3 ?_|refine G.r0 ?_|refine G.d0 ?_);(try simp (disch:=first|exact dis|fail) only [push_cast,↓reduceIte,zq1,zq2,zq3,zq4,zq5,fct])
    have:¬ a=b:=fun h=>hl (by rw [h])
    rw [eqD_f this]
    (first|exact Sep.xt (by assumption)|exact ⟨rfl,Sep.xt (by assumption)⟩)
def c18:MC:=(.seq (.reg [qq 4 (.mv (kb false))]) (.seq (.reg [qm 5 0,qm 6 1,qq 7 (.call 50 [(.tmp 5),(.tmp 6)]),qm 4 7]) .ret))
theorem k18:conv Tryz.prog 8 (Tryz.f18.body.getD .skip)=c18:=by kernel_rfl
theorem in18 {a0 a1:Value} {w:World} {R:Value→World→Prop} (h:G Tryz.prog Tryz.f18 8 [.c c18] R (frL 0 [a0,a1]) w):Ret Tryz.prog 18 #[a0,a1] w R:=G.enter (args:=[a0,a1]) Tryz.func18 (c:=Tryz.f18.body.getD .skip) (by kernel_rfl) (by kernel_rfl) (by simp) k18 h
theorem same18_spec {va vb:Value} {a b:List Col} {w:World} (ha:Rd w eC va a) (hb:Rd w eC vb b):Pu Tryz.prog 18 #[va,vb] w (.bool (eqD a b)):=by
  refine in18 ?_
  have hS:=Sep.start w
  repeat' (first|((with_reducible apply G.a);exact rfl)|refine G.reg fun K hK=>?_|(with_reducible (refine hK _ _ ?_);clear hK K)|(have hk:=hK;clear hk;simp (disch:=first|exact dis|fail) only [push_cast,↓reduceIte,zq1,zq2,zq3,zq4,zq5,fct])|(refine zcp 50 (equal_spec (ha.ext hS.x) (hb.ext hS.x)) ?_;intro wb hS))
  (first|refine G.r1 ?_|refine G.r2 ?_|refine G.r3 ?_|refine G.r0 ?_|refine G.d0 ?_);(try simp (disch:=first|exact dis|fail) only [push_cast,↓reduceIte,zq1,zq2,zq3,zq4,zq5,fct])
  (first|exact Sep.xt (by assumption)|exact ⟨rfl,Sep.xt (by assumption)⟩)
end Go.Proofs.YtjajihaeoolefaaGreatDoor
namespace Go.Proofs.YtjajihaeoolefaaGreatDoor
open Nat renaming reduceAdd→zq1,reduceLeDiff→zq2,reduceEqDiff→zq3,reduceLT→zq4
open Int renaming reduceToNat→zq5
set_option linter.unusedSimpArgs false
set_option linter.unusedVariables false
attribute [local irreducible] SemK UnitK StK AlcK BslK CallK CallV Instr.box Builtin.append_ Instr.makeSlice Instr.makeMap Instr.lookup Instr.mapUpdate Instr.sliceAt convert
open Go.RowKit
end Go.Proofs.YtjajihaeoolefaaGreatDoor
namespace Go.Proofs.YtjajihaeoolefaaGreatDoor
open Nat renaming reduceAdd→zq1,reduceLeDiff→zq2,reduceEqDiff→zq3,reduceLT→zq4
open Int renaming reduceToNat→zq5
set_option linter.unusedSimpArgs false
set_option linter.unusedVariables false
attribute [local irreducible] SemK UnitK StK AlcK BslK CallK CallV Instr.box Builtin.append_ Instr.makeSlice Instr.makeMap Instr.lookup Instr.mapUpdate Instr.sliceAt convert
open Go.RowKit
end Go.Proofs.YtjajihaeoolefaaGreatDoor
namespace Go.Proofs.YtjajihaeoolefaaGreatDoor
open Nat renaming reduceAdd→zq1,reduceLeDiff→zq2,reduceEqDiff→zq3,reduceLT→zq4
open Int renaming reduceToNat→zq5
set_option linter.unusedSimpArgs false
set_option linter.unusedVariables false
attribute [local irreducible] SemK UnitK StK AlcK BslK CallK CallV Instr.box Builtin.append_ Instr.makeSlice Instr.makeMap Instr.lookup Instr.mapUpdate Instr.sliceAt convert
open Go.RowKit
end Go.Proofs.YtjajihaeoolefaaGreatDoor
namespace Go.Proofs.YtjajihaeoolefaaGreatDoor
open Nat renaming reduceAdd→zq1,reduceLeDiff→zq2,reduceEqDiff→zq3,reduceLT→zq4
open Int renaming reduceToNat→zq5
set_option linter.unusedSimpArgs false
set_option linter.unusedVariables false
attribute [local irreducible] SemK UnitK StK AlcK BslK CallK CallV Instr.box Builtin.append_ Instr.makeSlice Instr.makeMap Instr.lookup Instr.mapUpdate Instr.sliceAt convert
open Go.RowKit
def c41l1:MC:=(.seq (.reg [qq 14 (.bin .lss (.tmp 13) (.tmp 12))]) (.seq (.cond (.tmp 14) .skip (.exit 0)) (.seq (.blk 1 (.seq (.reg [qm 15 13,qm 5 15]) (.seq (.drg [qm 16 0,qm 17 5,qq 18 (.adr 3 (.tmp 16) (.tmp 17)),qq 19 (.ld (.some 3) (.tmp 18)),qm 20 1,qm 21 5,qq 22 (.adr 3 (.tmp 20) (.tmp 21)),qq 23 (.ld (.some 3) (.tmp 22)),qq 24 (.eqA true [.s,.i,.i] (.tmp 19) (.tmp 23))] none) (.cond (.tmp 24) (.seq (.reg [qq 4 (.mv (kb false))]) .ret) .skip)))) (.reg [qq 25 (.bin .add (.tmp 13) (ki 1)),qm 13 25]))))
def c41:MC:=(.seq (.reg [qq 4 (.mv (kb false))]) (.seq (.seq (.reg [qm 6 0,qq 7 (.len (.tmp 6)),qm 8 1,qq 9 (.len (.tmp 8)),qq 10 (.bin .neq (.tmp 7) (.tmp 9))]) (.cond (.tmp 10) (.seq (.reg [qq 4 (.mv (kb false))]) .ret) .skip)) (.seq (.seq (.reg [qm 11 0,qq 12 (.len (.tmp 11)),qq 13 (.mv (ki 0))]) (.blk 0 (.loop c41l1))) (.seq (.reg [qq 4 (.mv (kb true))]) .ret))))
theorem k41:conv Tryz.prog 26 (Tryz.f41.body.getD .skip)=c41:=by kernel_rfl
theorem in41 {a0 a1:Value} {w:World} {R:Value→World→Prop} (h:G Tryz.prog Tryz.f41 26 [.c c41] R (frL 0 [a0,a1]) w):Ret Tryz.prog 41 #[a0,a1] w R:=G.enter (args:=[a0,a1]) Tryz.func41 (c:=Tryz.f41.body.getD .skip) (by kernel_rfl) (by kernel_rfl) (by simp) k41 h
theorem rsame_spec {va vb:Value} {a b:List RCol} {w:World} (ha:Rd w eR va a) (hb:Rd w eR vb b):Pu Tryz.prog 41 #[va,vb] w (.bool (eqD a b)):=by
  refine in41 ?_
  have hS:=Sep.start w
  have hbd:=ha.bd
  have hbd2:=hb.bd
  by_cases hl:a.length=b.length
  · repeat' (first|((with_reducible apply G.a);exact rfl)|refine G.reg fun K hK=>?_|(with_reducible (refine hK _ _ ?_);clear hK K)|(with_reducible (refine hK _ ?_);clear hK K;intro wd hxd;have hS:=Sep.xx hxd)|(have hk:=hK;clear hk;simp (disch:=first|exact dis|fail) only [push_cast,↓reduceIte,zq1,zq2,zq3,zq4,zq5,fct])|refine G.drg mixed fun K hK=>?_|(refine G.cn ?_ ?_<;>intro hc<;>first|(with_reducible exact False.elim hc)|(exfalso;omega)|skip))
    refine G.loop (fun r w'=>∃ k:Nat,k≤a.length∧r 13=I k∧r 12=I a.length∧r 0=va∧r 1=vb∧a.take k=b.take k∧Sep w w' []) (fun r _=>a.length - toN (r 13)) ?_ ?_
    · refine ⟨0,?_⟩
      ((repeat' apply And.intro)<;>first|exact dj|(simp only [push_cast,↓reduceIte,zq1,zq2,zq3,zq4,zq5]<;>omega)|skip)
      all_goals rfl
    · clear hS
      rintro u wl ⟨k,hk,h13,h12,h0,h1,e,hS⟩ ih
      by_cases hlt:(k:Int) < a.length
      · (have fct:=(And.intro @h13 (And.intro @h12 (And.intro @h0 @h1)));repeat' (first|((with_reducible apply G.a);exact rfl)|refine G.reg fun K hK=>?_|(with_reducible (refine hK _ _ ?_);clear hK K)|(with_reducible (refine hK _ ?_);clear hK K;intro wd hxd;have hS:=Sep.xx hxd)|(have hk:=hK;clear hk;simp (disch:=first|exact dis|fail) only [push_cast,↓reduceIte,zq1,zq2,zq3,zq4,zq5,fct])|refine G.drg mixed fun K hK=>?_|(refine G.cn ?_ ?_<;>intro hc<;>first|(with_reducible exact False.elim hc)|(exfalso;omega)|skip)))<;>(try clear fct)
        · (have fct:=(And.intro @h13 (And.intro @h12 (And.intro @h0 @h1)));(first|refine G.r1 ?_|refine G.r2 ?_|refine G.r3 ?_|refine G.r0 ?_|refine G.d0 ?_);(try simp (disch:=first|exact dis|fail) only [push_cast,↓reduceIte,zq1,zq2,zq3,zq4,zq5,fct]);(try clear fct))
          rw [eqD_f (get_ne (k:=k) (fun h=>by rw [h] at hc;simp at hc))]
          (first|exact Sep.xt (by assumption)|exact ⟨rfl,Sep.xt (by assumption)⟩)
        · have:=take_ext hl hlt e (rcol_ext hc)
          (refine ih _ _ ⟨k+1,?_⟩ ?_;rotate_left;(focus ((simp only [push_cast,↓reduceIte,zq1,zq2,zq3,zq4,zq5,toN_i,h13,h12,h0,h1]<;>omega)));((repeat' apply And.intro)<;>first|exact dj|(simp only [push_cast,↓reduceIte,zq1,zq2,zq3,zq4,zq5,h13,h12,h0,h1]<;>omega)|skip))
      · (have fct:=(And.intro @h13 (And.intro @h12 (And.intro @h0 @h1)));repeat' (first|((with_reducible apply G.a);exact rfl)|refine G.reg fun K hK=>?_|(with_reducible (refine hK _ _ ?_);clear hK K)|(with_reducible (refine hK _ ?_);clear hK K;intro wd hxd;have hS:=Sep.xx hxd)|(have hk:=hK;clear hk;simp (disch:=first|exact dis|fail) only [push_cast,↓reduceIte,zq1,zq2,zq3,zq4,zq5,fct])|refine G.drg mixed fun K hK=>?_|(refine G.cn ?_ ?_<;>intro hc<;>first|(with_reducible exact False.elim hc)|(exfalso;omega)|skip)))<;>(try clear fct)
        (have fct:=(And.intro @h13 (And.intro @h12 (And.intro @h0 @h1)));(first|refine G.r1 ?_|refine G.r2 ?_|refine G.r3 ?_|refine G.r0 ?_|refine G.d0 ?_);(try simp (disch:=first|exact dis|fail) only [push_cast,↓reduceIte,zq1,zq2,zq3,zq4,zq5,fct]);(try clear fct))
        rw [List.take_of_length_le (by omega),List.take_of_length_le (by omega)] at e
        rw [eqD_t e]
        (first|exact Sep.xt (by assumption)|exact ⟨rfl,Sep.xt (by assumption)⟩)
  · repeat' (first|((with_reducible apply G.a);exact rfl)|refine G.reg fun K hK=>?_|(with_reducible (refine hK _ _ ?_);clear hK K)|(with_reducible (refine hK _ ?_);clear hK K;intro wd hxd;have hS:=Sep.xx hxd)|(have hk:=hK;clear hk;simp (disch:=first|exact dis|fail) only [push_cast,↓reduceIte,zq1,zq2,zq3,zq4,zq5,fct])|refine G.drg mixed fun K hK=>?_|(refine G.cn ?_ ?_<;>intro hc<;>first|(with_reducible exact False.elim hc)|(exfalso;omega)|skip))
    (first|refine G.r1 ?_|refine G.r2 ?_|refine G.r3 ?_|refine G.r0 ?_|refine G.d0 ?_);(try simp (disch:=first|exact dis|fail) only [push_cast,↓reduceIte,zq1,zq2,zq3,zq4,zq5,fct])
    have:¬ a=b:=fun h=>hl (by rw [h])
    rw [eqD_f this]
    (first|exact Sep.xt (by assumption)|exact ⟨rfl,Sep.xt (by assumption)⟩)
end Go.Proofs.YtjajihaeoolefaaGreatDoor
