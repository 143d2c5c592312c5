/- Texts of the proof, joined. -/
import Derived.Test.YtllanbmpacgigaaGreatDoorDV06
import Derived.Test.YtllanbmpacgigaaGreatDoorDQ06
namespace Go.Proofs.YtllanbmpacgigaaGreatDoor
open Nat renaming reduceAdd→zq1,reduceLeDiff→zq2,reduceEqDiff→zq3,reduceLT→zq4
open Int renaming reduceToNat→zq5
set_option linter.unusedSimpArgs false
set_option linter.unusedVariables false
attribute [local irreducible] SemK UnitK StK AlcK BslK CallK CallV Instr.box Builtin.append_ Instr.makeSlice Instr.makeMap Instr.lookup Instr.mapUpdate Instr.sliceAt convert
open Go.RowKit
end Go.Proofs.YtllanbmpacgigaaGreatDoor
namespace Go.Proofs.YtllanbmpacgigaaGreatDoor
open Nat renaming reduceAdd→zq1,reduceLeDiff→zq2,reduceEqDiff→zq3,reduceLT→zq4
open Int renaming reduceToNat→zq5
set_option linter.unusedSimpArgs false
set_option linter.unusedVariables false
attribute [local irreducible] SemK UnitK StK AlcK BslK CallK CallV Instr.box Builtin.append_ Instr.makeSlice Instr.makeMap Instr.lookup Instr.mapUpdate Instr.sliceAt convert
open Go.RowKit
end Go.Proofs.YtllanbmpacgigaaGreatDoor
namespace Go.Proofs.YtllanbmpacgigaaGreatDoor
open Nat renaming reduceAdd→zq1,reduceLeDiff→zq2,reduceEqDiff→zq3,reduceLT→zq4
open Int renaming reduceToNat→zq5
set_option linter.unusedSimpArgs false
set_option linter.unusedVariables false
attribute [local irreducible] SemK UnitK StK AlcK BslK CallK CallV Instr.box Builtin.append_ Instr.makeSlice Instr.makeMap Instr.lookup Instr.mapUpdate Instr.sliceAt convert
open Go.RowKit
end Go.Proofs.YtllanbmpacgigaaGreatDoor
namespace Go.Proofs.YtllanbmpacgigaaGreatDoor
open Nat renaming reduceAdd→zq1,reduceLeDiff→zq2,reduceEqDiff→zq3,reduceLT→zq4
open Int renaming reduceToNat→zq5
set_option linter.unusedSimpArgs false
set_option linter.unusedVariables false
attribute [local irreducible] SemK UnitK StK AlcK BslK CallK CallV Instr.box Builtin.append_ Instr.makeSlice Instr.makeMap Instr.lookup Instr.mapUpdate Instr.sliceAt convert
open Go.RowKit
end Go.Proofs.YtllanbmpacgigaaGreatDoor
namespace Go.Proofs.YtllanbmpacgigaaGreatDoor
open Nat renaming reduceAdd→zq1,reduceLeDiff→zq2,reduceEqDiff→zq3,reduceLT→zq4
open Int renaming reduceToNat→zq5
set_option linter.unusedSimpArgs false
set_option linter.unusedVariables false
attribute [local irreducible] SemK UnitK StK AlcK BslK CallK CallV Instr.box Builtin.append_ Instr.makeSlice Instr.makeMap Instr.lookup Instr.mapUpdate Instr.sliceAt convert
open Go.RowKit
end Go.Proofs.YtllanbmpacgigaaGreatDoor
namespace Go.Proofs.YtllanbmpacgigaaGreatDoor
open Nat renaming reduceAdd→zq1,reduceLeDiff→zq2,reduceEqDiff→zq3,reduceLT→zq4
open Int renaming reduceToNat→zq5
set_option linter.unusedSimpArgs false
set_option linter.unusedVariables false
attribute [local irreducible] SemK UnitK StK AlcK BslK CallK CallV Instr.box Builtin.append_ Instr.makeSlice Instr.makeMap Instr.lookup Instr.mapUpdate Instr.sliceAt convert
open Go.RowKit
end Go.Proofs.YtllanbmpacgigaaGreatDoor
namespace Go.Proofs.YtllanbmpacgigaaGreatDoor
open Nat renaming reduceAdd→zq1,reduceLeDiff→zq2,reduceEqDiff→zq3,reduceLT→zq4
open Int renaming reduceToNat→zq5
set_option linter.unusedSimpArgs false
set_option linter.unusedVariables false
attribute [local irreducible] SemK UnitK StK AlcK BslK CallK CallV Instr.box Builtin.append_ Instr.makeSlice Instr.makeMap Instr.lookup Instr.mapUpdate Instr.sliceAt convert
open Go.RowKit
theorem Sub.nil0:∀ {L:List Chk},Sub [] L
  | []=>.n
  | _ :: _=>Sub.skip Sub.nil0
def parM (d:Dl) (l:Lm) (s:Str):Rs:=wrun d l 0 0 {} (s.length - (stripM s).length) (stripM s)
theorem strip_drop (s:Str):stripM s=s.drop (s.length - (stripM s).length)∧(stripM s).length≤s.length:=by
  unfold stripM
  split
  · rename_i h
    have:=congrArg List.length h
    simp at this
    constructor
    · congr 1;simp;omega
    · simp
  · simp
end Go.Proofs.YtllanbmpacgigaaGreatDoor
namespace Go.Proofs.YtllanbmpacgigaaGreatDoor
open Nat renaming reduceAdd→zq1,reduceLeDiff→zq2,reduceEqDiff→zq3,reduceLT→zq4
open Int renaming reduceToNat→zq5
set_option linter.unusedSimpArgs false
set_option linter.unusedVariables false
attribute [local irreducible] SemK UnitK StK AlcK BslK CallK CallV Instr.box Builtin.append_ Instr.makeSlice Instr.makeMap Instr.lookup Instr.mapUpdate Instr.sliceAt convert
open Go.RowKit
end Go.Proofs.YtllanbmpacgigaaGreatDoor
namespace Go.Proofs.YtllanbmpacgigaaGreatDoor
open Nat renaming reduceAdd→zq1,reduceLeDiff→zq2,reduceEqDiff→zq3,reduceLT→zq4
open Int renaming reduceToNat→zq5
set_option linter.unusedSimpArgs false
set_option linter.unusedVariables false
attribute [local irreducible] SemK UnitK StK AlcK BslK CallK CallV Instr.box Builtin.append_ Instr.makeSlice Instr.makeMap Instr.lookup Instr.mapUpdate Instr.sliceAt convert
open Go.RowKit
theorem ex_mid (c:Chk) (B:List Chk):∀ A:List Chk,Ex c (A++c :: B) (A++B)
  | []=>.h
  | _ :: A=>.t (ex_mid c B A)
theorem sub_comm (A:List Chk):∀ B:List Chk,Sub (B++A) (A++B)
  | []=>by rw [List.append_nil];exact Sub.rfl'
  | b :: B=>.c (ex_mid b B A) (sub_comm A B)
theorem Sep.comm {w0 w:World} {A B:List Chk} (h:Sep w0 w (A++B)):Sep w0 w (B++A):=h.sub (sub_comm A B)
def c86:MC:=(.seq (.reg [qq 1 (.raw (.box 81 (.tmp 0)) 0),qq 2 (.mv (.const (.pointer none))),qq 3 (.mv (ki 0))]) (.seq (.seq (.reg [qq 5 (.ld (.some 4) (.tmp 1)),qq 6 (.call 127 [(.tmp 5)]),qm 4 6]) (.seq (.reg [qm 7 4,qq 8 (.bin .neq (.tmp 7) (ki 0))]) (.cond (.tmp 8) (.seq (.reg [qm 9 4,qq 2 (.mv (.const (.pointer none))),qm 3 9]) .ret) .skip))) (.seq (.reg [qq 10 (.ld (.some 4) (.tmp 1)),qq 11 (.bld [(.int .i64 0),(.int .i64 0),(.int .i64 0),(.bool false),(.slice none 0 0),(.slice none 0 0),(.int .i64 0),(.int .i64 0),(.int .i64 0),(.int .i64 0)] [⟨0,⟨4,(.tmp 10)⟩⟩]),qq 12 (.raw (.box 192 (.tmp 11)) 135),qm 2 12,qq 3 (.mv (ki 0))]) .ret)))
theorem k86:conv Tryz.prog 13 (Tryz.f86.body.getD .skip)=c86:=by kernel_rfl
theorem in86 {a0:Value} {w:World} {R:Value→World→Prop} (h:G Tryz.prog Tryz.f86 13 [.c c86] R (frL 0 [a0]) w):Ret Tryz.prog 86 #[a0] w R:=G.enter (args:=[a0]) Tryz.func86 (c:=Tryz.f86.body.getD .skip) (by kernel_rfl) (by kernel_rfl) (by simp) k86 h
theorem fnew_no (l:Lm) (w:World) (h:fitsL l=false):Pu Tryz.prog 86 #[(.agg #[I l.F,I l.N,I l.R,.bool l.U])] w (.tuple #[.pointer none,I 2]):=by
  refine in86 ?_
  have hS:=Sep.start w
  (have fct:=@h;repeat' (first|((with_reducible apply G.a);exact rfl)|refine G.reg fun K hK=>?_|(with_reducible (refine hK _ _ ?_);clear hK K)|(have hk:=hK;clear hk;simp (disch:=first|exact dis|fail) only [push_cast,↓reduceIte,zq1,zq2,zq3,zq4,zq5,fct])|(((with_reducible refine gBox ?_);refine zbox ?_);intro gb wb hS)|(refine zcp 127 (checkL_spec l _) ?_;intro wb hS)|(refine G.cn ?_ ?_<;>intro hc<;>first|(with_reducible exact False.elim hc)|(exfalso;omega)|skip)))<;>(try clear fct)
  all_goals
    (first|refine G.r1 ?_|refine G.r2 ?_|refine G.r3 ?_|refine G.r0 ?_|refine G.d0 ?_);(try simp (disch:=first|exact dis|fail) only [push_cast,↓reduceIte,zq1,zq2,zq3,zq4,zq5,fct])
    (first|exact Sep.xt (by assumption)|exact ⟨rfl,Sep.xt (by assumption)⟩)
theorem fnew_yes (l:Lm) (w:World) (h:fitsL l=true):Ret Tryz.prog 86 #[(.agg #[I l.F,I l.N,I l.R,.bool l.U])] w fun res w'=>∃ g fv rv,res=.tuple #[.pointer (some ⟨g,0,none⟩),I 0]∧Sep w w' [boxC g 192 [I l.F,I l.N,I l.R,.bool l.U,fv,rv,I 0,I 0,I 0,I 0],accC fv 5 eU [],accC rv 9 eS []]:=by
  refine in86 ?_
  have hS:=Sep.start w
  (have fct:=@h;repeat' (first|((with_reducible apply G.a);exact rfl)|refine G.reg fun K hK=>?_|(with_reducible (refine hK _ _ ?_);clear hK K)|(have hk:=hK;clear hk;simp (disch:=first|exact dis|fail) only [push_cast,↓reduceIte,zq1,zq2,zq3,zq4,zq5,fct])|(((with_reducible refine gBox ?_);refine zbox ?_);intro gb wb hS)|(refine zcp 127 (checkL_spec l _) ?_;intro wb hS)|(refine G.cn ?_ ?_<;>intro hc<;>first|(with_reducible exact False.elim hc)|(exfalso;omega)|skip)))<;>(try clear fct)
  all_goals
    (first|refine G.r1 ?_|refine G.r2 ?_|refine G.r3 ?_|refine G.r0 ?_|refine G.d0 ?_);(try simp (disch:=first|exact dis|fail) only [push_cast,↓reduceIte,zq1,zq2,zq3,zq4,zq5,fct])
    have hS:=(hS.nil 5 eU).nil 9 eS
    exact ⟨_,.slice none 0 0,.slice none 0 0,rfl,Sep.sub hS (by repeat first|exact Sub.rfl'|(refine Sub.c (by repeat constructor) ?_)|refine Sub.skip ?_)⟩
def goN (go:List (List Str)→Bool):List (List Str)→List (List Str)→List (List Str)×Bool
  | acc,[]=>(acc,false)
  | acc,r :: rs=>if go (acc++[r])=true then goN go (acc++[r]) rs else (acc++[r],true)
theorem goN_app (go:List (List Str)→Bool) (y:List (List Str)):∀ (x a:List (List Str)),goN go a (x++y)=if (goN go a x).2=true then goN go a x else goN go (goN go a x).1 y
  | [],a=>by simp [goN]
  | r :: x,a=>by
    rw [List.cons_append,goN,goN]
    split
    · exact goN_app go y x _
    · rfl
theorem goN_all (go:List (List Str)→Bool):∀ (x a:List (List Str)),(goN go a x).2=false→(goN go a x).1=a++x
  | [],a,_=>by simp [goN]
  | r :: x,a,h=>by
    rw [goN] at h ⊢
    split at h
    · rename_i h2;rw [if_pos h2,goN_all go x _ h];simp
    · simp at h
structure TakeOK (tv:Value) (TSL:List (List Str)→List Chk→Prop) (go:List (List Str)→Bool):Prop where
  ok : ∀ {xss:List (List Str)} {r:List Str} {rv:Value} {w0 w:World} {M L:List Chk} {d:Option Nat} {ρ:Fr} {next:Fr→World→Prop},TSL xss L→(goN go [] xss).2=false→xss.length≤1000000000→Sep w0 w (accC rv 9 eS r :: (M++L)) →
    (∀ w' L',TSL (xss++[r]) L'→Sep w0 w' (M++L')→next (updO ρ d (.bool (go (xss++[r])))) w')→CallV Tryz.prog tv [rv] w d ρ next
def walkM (d:Dl) (l:Lm) (s:Str):Rs:=if rightD d=false then ⟨[],1,0⟩ else if fitsL l=false then ⟨[],2,0⟩ else parM d l s
theorem wrun_zero (d:Dl) (l:Lm):∀ (t:Str) (q st:Int) (m:Mk) (p:Nat),(wrun d l q st m p t).k=0→(wrun d l q st m p t).a=0:=by
  intro t
  induction t with
  | nil =>
    intro q st m p h
    rw [wrun_nil] at h ⊢
    cases he:endW l q st m with
    | error k=>rw [he] at h;have:=endW_err he;simp at h;omega
    | ok r=>rfl
  | cons b t ih =>
    intro q st m p h
    rw [wrun_cons] at h ⊢
    cases he:stepW d l q st m b with
    | error k=>rw [he] at h;have:=stepW_err he;simp at h;omega
    | ok x=>rw [he] at h;exact ih _ _ _ _ h
theorem dropB06 (l:Str) (k:Nat) (h:(k:Int) < l.length):l.drop k=l.getD k 0 :: l.drop (k+1):=by
  have h':k < l.length:=by omega
  rw [List.drop_eq_getElem_cons h',List.getD_eq_getElem?_getD,List.getElem?_eq_getElem h'];rfl
def c56l1:MC:=(.seq (.seq (.reg [qm 51 15,qm 52 2,qq 53 (.lenS (.tmp 52)),qq 54 (.bin .lss (.tmp 51) (.tmp 53))]) (.cond (.tmp 54) .skip (.exit 0))) (.seq (.blk 1 (.seq (.reg [qm 58 2,qm 59 15,qq 60 (.idxS (.tmp 58) (.tmp 59)),qq 61 (.call 88 [(.tmp 12),(.tmp 60)]),qm 57 61,qq 62 (.ext 0 (.tmp 57)),qq 63 (.ext 1 (.tmp 57)),qq 64 (.ext 2 (.tmp 57)),qm 17 62,qm 18 63,qm 19 64]) (.blk 2 (.seq (.reg [qm 66 19,qq 67 (.bin .neq (.tmp 66) (ki 0)),qm 65 67]) (.cond (.tmp 65) (.seq (.reg [qm 68 19,qm 16 68]) (.exit 0)) (.seq (.reg [qm 70 18,qm 71 70,qmt 71 72 3,qmt 71 73 17,qt 71 74 (.raw (.call ⟨(.value (.tmp 72)),#[(.tmp 73)],#[22]⟩) 4),qt 71 75 (.un .not (.tmp 74)),qq 76 (.pick (.tmp 71) (.tmp 75) (kb false)),qm 69 76]) (.cond (.tmp 69) (.seq (.reg [qq 77 (.bld [(.int .i64 0),(.int .i64 0)] []),qn (.st 2 (.tmp 8) (.tmp 77))]) .ret) .skip))))))) (.reg [qm 55 15,qq 56 (.bin .add (.tmp 55) (ki 1)),qm 15 56])))
def c56:MC:=(.seq (.reg [qq 4 (.raw (.box 39 (.tmp 0)) 0),qq 5 (.raw (.box 81 (.tmp 1)) 0),qq 8 (.alc 77 [(.int .i64 0),(.int .i64 0)])]) (.scp (.seq (.seq (.reg [qq 23 (.ld (.some 3) (.tmp 4)),qq 24 (.call 85 [(.tmp 23)]),qm 9 24]) (.seq (.reg [qm 25 9,qq 26 (.bin .neq (.tmp 25) (ki 0))]) (.cond (.tmp 26) (.seq (.reg [qm 27 9,qq 28 (.bld [(.int .i64 0),(.int .i64 0)] [⟨0,⟨1,(.tmp 27)⟩⟩]),qn (.st 2 (.tmp 8) (.tmp 28))]) .ret) .skip))) (.seq (.reg [qq 30 (.ld (.some 4) (.tmp 5)),qq 31 (.call 86 [(.tmp 30)]),qm 29 31,qq 32 (.ext 0 (.tmp 29)),qq 33 (.ext 1 (.tmp 29)),qm 10 32,qm 11 33]) (.seq (.seq (.reg [qm 34 11,qq 35 (.bin .neq (.tmp 34) (ki 0))]) (.cond (.tmp 35) (.seq (.reg [qm 36 11,qq 37 (.bld [(.int .i64 0),(.int .i64 0)] [⟨0,⟨1,(.tmp 36)⟩⟩]),qn (.st 2 (.tmp 8) (.tmp 37))]) .ret) .skip)) (.seq (.reg [qq 38 (.ld (.some 3) (.tmp 4)),qm 39 10,qq 40 (.bld [(.int .u8 0),(.int .u8 0),(.int .i64 0),(.pointer none),(.int .i64 0),(.int .i64 0)] [⟨0,⟨3,(.tmp 38)⟩⟩,⟨3,⟨1,(.tmp 39)⟩⟩]),qq 12 (.alc 139 [(.int .u8 0),(.int .u8 0),(.int .i64 0),(.pointer none),(.int .i64 0),(.int .i64 0)]),qn (.st 6 (.tmp 12) (.tmp 40))]) (.seq (.reg [qm 42 2,qq 43 (.call 87 [(.tmp 42)]),qm 41 43,qq 44 (.ext 0 (.tmp 41)),qq 45 (.ext 1 (.tmp 41)),qm 13 44,qm 14 45]) (.seq (.reg [qm 46 2,qq 47 (.lenS (.tmp 46)),qm 48 13,qq 49 (.lenS (.tmp 48)),qq 50 (.bin .sub (.tmp 47) (.tmp 49)),qm 15 50]) (.seq (.reg [qq 16 (.mv (ki 0))]) (.seq .lab (.seq (.blk 0 (.loop c56l1)) (.seq (.seq (.reg [qm 78 16,qq 79 (.bin .eql (.tmp 78) (ki 0))]) (.cond (.tmp 79) (.seq (.reg [qq 81 (.call 89 [(.tmp 12)]),qm 80 81,qq 82 (.ext 0 (.tmp 80)),qq 83 (.ext 1 (.tmp 80)),qq 84 (.ext 2 (.tmp 80)),qm 20 82,qm 21 83,qm 22 84]) (.seq (.seq (.reg [qm 85 21]) (.cond (.tmp 85) (.reg [qm 86 3,qm 87 20,qq 88 (.raw (.call ⟨(.value (.tmp 86)),#[(.tmp 87)],#[22]⟩) 4)]) .skip)) (.reg [qm 89 22,qm 16 89]))) .skip)) (.seq (.seq (.reg [qm 90 16,qq 91 (.bin .eql (.tmp 90) (ki 0))]) (.cond (.tmp 91) (.seq (.reg [qq 92 (.bld [(.int .i64 0),(.int .i64 0)] []),qn (.st 2 (.tmp 8) (.tmp 92))]) .ret) .skip)) (.seq (.reg [qm 93 16,qm 94 15,qq 95 (.bld [(.int .i64 0),(.int .i64 0)] [⟨0,⟨1,(.tmp 93)⟩⟩,⟨1,⟨1,(.tmp 94)⟩⟩]),qn (.st 2 (.tmp 8) (.tmp 95))]) .ret))))))))))))))
theorem k56:conv Tryz.prog 96 (Tryz.f56.body.getD .skip)=c56:=by kernel_rfl
theorem in56 {a0 a1 a2 a3:Value} {w:World} {R:Value→World→Prop} (h:G Tryz.prog Tryz.f56 96 [.c c56] R (frL 0 [a0,a1,a2,a3]) w):Ret Tryz.prog 56 #[a0,a1,a2,a3] w R:=G.enter (args:=[a0,a1,a2,a3]) Tryz.func56 (c:=Tryz.f56.body.getD .skip) (by kernel_rfl) (by kernel_rfl) (by simp) k56 h
set_option maxHeartbeats 2000000 in
theorem walk_spec {tv:Value} {TSL:List (List Str)→List Chk→Prop} {go:List (List Str)→Bool} (hT:TakeOK tv TSL go) (d:Dl) (l:Lm) (s:Str) {w0 w:World} {L:List Chk} (hl:s.length≤1000000) (hS:Sep w0 w L) (hL:TSL [] L) :
    Ret Tryz.prog 56 #[(.agg #[U d.dl,U d.q,I d.e]),(.agg #[I l.F,I l.N,I l.R,.bool l.U]),S s,tv] w fun res w'=>res=.agg #[I (if (goN go [] ((walkM d l s).rs.map (·.1))).2=true then 0 else (walkM d l s).k),I (if (goN go [] ((walkM d l s).rs.map (·.1))).2=true then 0 else (walkM d l s).a)]∧∃ L',TSL (goN go [] ((walkM d l s).rs.map (·.1))).1 L'∧Sep w0 w' L':=by
  refine in56 ?_
  unfold walkM
  cases hr:rightD d
  · rw [if_pos rfl]
    (have fct:=@hr;repeat' (first|((with_reducible apply G.a);exact rfl)|refine G.reg fun K hK=>?_|(with_reducible (refine hK _ _ ?_);clear hK K)|(have hk:=hK;clear hk;simp (disch:=first|exact dis|fail) only [push_cast,↓reduceIte,zq1,zq2,zq3,zq4,zq5,fct])|(refine brO_n ?_ ?_<;>intro hb hc<;>first|(with_reducible exact False.elim hc)|(exfalso;omega)|(simp only [hb];clear hb))|((first|refine zalc ?_|((with_reducible refine gBox ?_);refine zbox ?_));intro gb wb hS)|((with_reducible refine gSt ?_);refine zs2 ?_;intro wb hS)|(refine zcv ?_)|(refine zcp 85 (checkD_spec d _) ?_;intro wb hS)|(refine G.cn ?_ ?_<;>intro hc<;>first|(with_reducible exact False.elim hc)|(exfalso;omega)|skip)))<;>(try clear fct)
    all_goals
      (first|refine G.r1 ?_|refine G.r2 ?_|refine G.r3 ?_|refine G.r0 ?_|refine G.d0 ?_);(try simp (disch:=first|exact dis|fail) only [push_cast,↓reduceIte,zq1,zq2,zq3,zq4,zq5,fct])
      exact ⟨by simp [goN],L,hL,Sep.sub hS (by repeat first|exact Sub.rfl'|(refine Sub.c (by repeat constructor) ?_)|refine Sub.skip ?_)⟩
  · rw [if_neg (show ¬ true=false by decide)]
    cases hf:fitsL l
    · rw [if_pos rfl]
      (have fct:=@hr;repeat' (first|((with_reducible apply G.a);exact rfl)|refine G.reg fun K hK=>?_|(with_reducible (refine hK _ _ ?_);clear hK K)|(have hk:=hK;clear hk;simp (disch:=first|exact dis|fail) only [push_cast,↓reduceIte,zq1,zq2,zq3,zq4,zq5,fct])|(refine brO_n ?_ ?_<;>intro hb hc<;>first|(with_reducible exact False.elim hc)|(exfalso;omega)|(simp only [hb];clear hb))|((first|refine zalc ?_|((with_reducible refine gBox ?_);refine zbox ?_));intro gb wb hS)|((with_reducible refine gSt ?_);refine zs2 ?_;intro wb hS)|(refine zcv ?_)|(refine zcp 85 (checkD_spec d _) ?_;intro wb hS)|(refine zcp 86 (fnew_no l _ hf) ?_;intro wb hS)|(refine G.cn ?_ ?_<;>intro hc<;>first|(with_reducible exact False.elim hc)|(exfalso;omega)|skip)))<;>(try clear fct)
      all_goals
        (first|refine G.r1 ?_|refine G.r2 ?_|refine G.r3 ?_|refine G.r0 ?_|refine G.d0 ?_);(try simp (disch:=first|exact dis|fail) only [push_cast,↓reduceIte,zq1,zq2,zq3,zq4,zq5,fct])
        exact ⟨by simp [goN],L,hL,Sep.sub hS (by repeat first|exact Sub.rfl'|(refine Sub.c (by repeat constructor) ?_)|refine Sub.skip ?_)⟩
    · rw [if_neg (show ¬ true=false by decide)]
      unfold parM
      obtain ⟨hsd,hsl⟩:=strip_drop s
      generalize hoff:s.length - (stripM s).length=off at *
      have hI:(s.length:Int) - ((stripM s).length:Int)=off:=by omega
      have hoff2:off≤s.length:=by omega
      have hR0:wrun d l 0 0 {} off (stripM s)=wrun d l 0 0 {} off (s.drop off):=by rw [←hsd]
      rw [hR0]
      (have fct:=@hr;repeat' (first|((with_reducible apply G.a);exact rfl)|refine G.reg fun K hK=>?_|(with_reducible (refine hK _ _ ?_);clear hK K)|(have hk:=hK;clear hk;simp (disch:=first|exact dis|fail) only [push_cast,↓reduceIte,zq1,zq2,zq3,zq4,zq5,fct])|(refine brO_n ?_ ?_<;>intro hb hc<;>first|(with_reducible exact False.elim hc)|(exfalso;omega)|(simp only [hb];clear hb))|((first|refine zalc ?_|((with_reducible refine gBox ?_);refine zbox ?_));intro gb wb hS)|((with_reducible refine gSt ?_);refine zs2 ?_;intro wb hS)|(refine zcv ?_)|(refine zcp 85 (checkD_spec d _) ?_;intro wb hS)|(refine zco 86 (fnew_yes l _ hf) ?_;rintro vb wb ⟨g,fv,rv,rfl,hS2⟩;have hS:=hS2.ap;simp only [apps] at hS)|(refine zcp 87 (strip_spec s _ (by omega)) ?_;intro wb hS)|(refine G.cn ?_ ?_<;>intro hc<;>first|(with_reducible exact False.elim hc)|(exfalso;omega)|skip)))<;>(try clear fct)
      rename_i g8 _ _ _ _ _ _ _ _ _ _ _
      have hz:=wrun_zero d l (s.drop off) 0 0 {} off
      generalize hR:wrun d l 0 0 {} off (s.drop off)=R at hz ⊢
      refine G.loop (fun r' w'=>∃ (p:Nat) (q st:Int) (m:Mk) (acc:List (List Str×Nat)) (L2:List Chk) (fv rv:Value),p≤s.length∧r' 15=I p∧r' 2=S s∧r' 3=tv∧r' 8=.pointer (some ⟨g8,0,none⟩)∧r' 12=.pointer (some ⟨gb,0,none⟩)∧r' 16=I 0
        ∧ R=(wrun d l q st m p (s.drop p)).pre acc∧bdM (3 * p) m∧acc.length≤p∧(goN go [] (acc.map (·.1))).2=false∧TSL (acc.map (·.1)) L2∧Sep w0 w' (boxC gb 139 [U d.dl,U d.q,I d.e,.pointer (some ⟨g,0,none⟩),I q,I st] :: boxC g 192 [I l.F,I l.N,I l.R,.bool l.U,fv,rv,I m.bg,I m.ct,I m.wd,I 0] :: accC fv 5 eU m.fl :: accC rv 9 eS m.rc :: boxC g8 77 [I 0,I 0] :: L2)) (fun r' _=>s.length - toN (r' 15)) ?_ ?_
      · have hS:Sep w0 _ (boxC gb 139 [U d.dl,U d.q,I d.e,.pointer (some ⟨g,0,none⟩),I 0,I 0] :: boxC g 192 [I l.F,I l.N,I l.R,.bool l.U,fv,rv,I 0,I 0,I 0,I 0] :: accC fv 5 eU [] :: accC rv 9 eS [] :: boxC g8 77 [I 0,I 0] :: L):=Sep.sub hS (by repeat first|exact Sub.rfl'|(refine Sub.c (by repeat constructor) ?_)|refine Sub.skip ?_)
        have fct:=@hI;exact ⟨off,0,0,{},[],L,fv,rv,hoff2,by exact sf,by exact sf,by exact sf,by exact sf,by exact sf,by exact sf,hR.symm,⟨by simp,by simp,by simp,by simp⟩,by simp,rfl,hL,hS⟩
      · clear hS hS2
        rintro u wl ⟨p,q,st,m,acc,L2,fv,rv,hp,h15,q2,q3,q8,q12,q16,e,hb,hac,hgo,hL,hS⟩ ih
        have hgo1:=goN_all go _ _ hgo
        rw [List.nil_append] at hgo1
        by_cases hlt:(p:Int) < s.length
        · rw [dropB06 s p hlt,wrun_cons] at e
          cases hsw:stepW d l q st m (s.getD p 0) with
          | error k =>
            rw [hsw] at e
            have hk:=stepW_err hsw
            have hR2:R=⟨acc,k,p⟩:=by rw [e];simp [Rs.pre]
            subst hR2
            (have fct:=(And.intro @h15 (And.intro @q2 (And.intro @q3 (And.intro @q8 (And.intro @q12 @q16)))));repeat' (first|((with_reducible apply G.a);exact rfl)|refine G.reg fun K hK=>?_|(with_reducible (refine hK _ _ ?_);clear hK K)|(have hk:=hK;clear hk;simp (disch:=first|exact dis|fail) only [push_cast,↓reduceIte,zq1,zq2,zq3,zq4,zq5,fct])|(refine brO_n ?_ ?_<;>intro hb hc<;>first|(with_reducible exact False.elim hc)|(exfalso;omega)|(simp only [hb];clear hb))|((first|refine zalc ?_|((with_reducible refine gBox ?_);refine zbox ?_));intro gb wb hS)|((with_reducible refine gSt ?_);refine zs2 ?_;intro wb hS)|(refine zcv ?_)|((with_reducible (show CallK _ 88 _ _ _ _ _));have hx:WkS w0 _ gb g d l q st m (boxC g8 77 [I 0,I 0] :: L2):=⟨fv,rv,Sep.sub hS (by repeat first|exact Sub.rfl'|(refine Sub.c (by repeat constructor) ?_)|refine Sub.skip ?_)⟩;refine zco 88 (wstep_spec (b:=s.getD p 0) hx (bd_mono hb (by omega))) ?_;clear hx;intro vb wb hG;rw [hsw] at hG;obtain ⟨rfl,hS⟩:=hG)|(refine G.cn ?_ ?_<;>intro hc<;>first|(with_reducible exact False.elim hc)|(exfalso;omega)|skip)))<;>(try clear fct)
            all_goals
              (have fct:=(And.intro @h15 (And.intro @q2 (And.intro @q3 (And.intro @q8 (And.intro @q12 @q16)))));(first|refine G.r1 ?_|refine G.r2 ?_|refine G.r3 ?_|refine G.r0 ?_|refine G.d0 ?_);(try simp (disch:=first|exact dis|fail) only [push_cast,↓reduceIte,zq1,zq2,zq3,zq4,zq5,fct]);(try clear fct))
              simp only [hgo,hgo1,Bool.false_eq_true,if_false]
              exact ⟨trivial,L2,hL,Sep.sub hS (by repeat first|exact Sub.rfl'|(refine Sub.c (by repeat constructor) ?_)|refine Sub.skip ?_)⟩
          | ok x =>
            rw [hsw] at e
            have hb2:=stepW_bd hb hsw
            obtain ⟨q',st',m',o⟩:=x
            cases o with
            | none =>
              have e:R=(wrun d l q' st' m' (p+1) (s.drop (p+1))).pre acc:=by rw [e];simp [Rs.pre,oneR]
              (have fct:=(And.intro @h15 (And.intro @q2 (And.intro @q3 (And.intro @q8 (And.intro @q12 @q16)))));repeat' (first|((with_reducible apply G.a);exact rfl)|refine G.reg fun K hK=>?_|(with_reducible (refine hK _ _ ?_);clear hK K)|(have hk:=hK;clear hk;simp (disch:=first|exact dis|fail) only [push_cast,↓reduceIte,zq1,zq2,zq3,zq4,zq5,fct])|(refine brO_n ?_ ?_<;>intro hb hc<;>first|(with_reducible exact False.elim hc)|(exfalso;omega)|(simp only [hb];clear hb))|((first|refine zalc ?_|((with_reducible refine gBox ?_);refine zbox ?_));intro gb wb hS)|((with_reducible refine gSt ?_);refine zs2 ?_;intro wb hS)|(refine zcv ?_)|((with_reducible (show CallK _ 88 _ _ _ _ _));have hx:WkS w0 _ gb g d l q st m (boxC g8 77 [I 0,I 0] :: L2):=⟨fv,rv,Sep.sub hS (by repeat first|exact Sub.rfl'|(refine Sub.c (by repeat constructor) ?_)|refine Sub.skip ?_)⟩;refine zco 88 (wstep_spec (b:=s.getD p 0) hx (bd_mono hb (by omega))) ?_;clear hx;intro vb wb hG;rw [hsw] at hG;obtain ⟨rfl,fv2,rv2,hS⟩:=hG)|(refine G.cn ?_ ?_<;>intro hc<;>first|(with_reducible exact False.elim hc)|(exfalso;omega)|skip)))<;>(try clear fct)
              all_goals
                have fct:=(And.intro @q2 (And.intro @q3 (And.intro @q8 (And.intro @q12 (And.intro @q16 @h15)))));refine ih _ _ ⟨p+1,q',st',m',acc,L2,fv2,rv2,by omega,by exact sf,by exact sf,by exact sf,by exact sf,by exact sf,by exact sf,e,bd_mono hb2 (by omega),by omega,hgo,hL,Sep.sub hS (by repeat first|exact Sub.rfl'|(refine Sub.c (by repeat constructor) ?_)|refine Sub.skip ?_)⟩ ?_
                (simp only [push_cast,↓reduceIte,zq1,zq2,zq3,zq4,zq5,toN_i,h15,q2,q3,q8,q12,q16]<;>omega)
            | some r =>
              have e:R=(wrun d l q' st' m' (p+1) (s.drop (p+1))).pre (acc++[(r,p)]):=by rw [e];simp [Rs.pre,oneR]
              have hg2:=goN_app go [r] (acc.map (·.1)) []
              rw [if_neg (by rw [hgo];simp),hgo1] at hg2
              have hmap:(acc++[(r,p)]).map (·.1)=acc.map (·.1)++[r]:=by simp
              cases hgr:go (acc.map (·.1)++[r])
              · have hg3:goN go [] (acc.map (·.1)++[r])=(acc.map (·.1)++[r],true):=by rw [hg2,goN,hgr];rfl
                have hg4:goN go [] (R.rs.map (·.1))=(acc.map (·.1)++[r],true):=by
                  rw [e]
                  simp only [Rs.pre]
                  rw [List.map_append,hmap,goN_app,hg3];rfl
                (have fct:=(And.intro @h15 (And.intro @q2 (And.intro @q3 (And.intro @q8 (And.intro @q12 (And.intro @q16 @hgr))))));repeat' (first|((with_reducible apply G.a);exact rfl)|refine G.reg fun K hK=>?_|(with_reducible (refine hK _ _ ?_);clear hK K)|(have hk:=hK;clear hk;simp (disch:=first|exact dis|fail) only [push_cast,↓reduceIte,zq1,zq2,zq3,zq4,zq5,fct])|(refine brO_n ?_ ?_<;>intro hb hc<;>first|(with_reducible exact False.elim hc)|(exfalso;omega)|(simp only [hb];clear hb))|((first|refine zalc ?_|((with_reducible refine gBox ?_);refine zbox ?_));intro gb wb hS)|((with_reducible refine gSt ?_);refine zs2 ?_;intro wb hS)|(refine zcv ?_)|((with_reducible (show CallK _ 88 _ _ _ _ _));have hx:WkS w0 _ gb g d l q st m (boxC g8 77 [I 0,I 0] :: L2):=⟨fv,rv,Sep.sub hS (by repeat first|exact Sub.rfl'|(refine Sub.c (by repeat constructor) ?_)|refine Sub.skip ?_)⟩;refine zco 88 (wstep_spec (b:=s.getD p 0) hx (bd_mono hb (by omega))) ?_;clear hx;intro vb wb hG;rw [hsw] at hG;obtain ⟨rv3,rfl,fv2,rv2,hS⟩:=hG)|((with_reducible (show CallV _ tv _ _ _ _ _));refine hT.ok (M:=[boxC gb 139 [U d.dl,U d.q,I d.e,.pointer (some ⟨g,0,none⟩),I q',I st'],boxC g 192 [I l.F,I l.N,I l.R,.bool l.U,fv2,rv2,I m'.bg,I m'.ct,I m'.wd,I 0],accC fv2 5 eU m'.fl,accC rv2 9 eS m'.rc,boxC g8 77 [I 0,I 0]]) hL hgo (by simp;omega) (by first|(exact Sep.sub (by assumption) (by repeat first|exact Sub.rfl'|(refine Sub.c (by repeat constructor) ?_)|refine Sub.skip ?_))|fail) ?_;intro wb L3 hL3 hS;simp only [apps] at hS)|(refine G.cn ?_ ?_<;>intro hc<;>first|(with_reducible exact False.elim hc)|(exfalso;omega)|skip)))<;>(try clear fct)
                all_goals
                  (have fct:=(And.intro @h15 (And.intro @q2 (And.intro @q3 (And.intro @q8 (And.intro @q12 @q16)))));(first|refine G.r1 ?_|refine G.r2 ?_|refine G.r3 ?_|refine G.r0 ?_|refine G.d0 ?_);(try simp (disch:=first|exact dis|fail) only [push_cast,↓reduceIte,zq1,zq2,zq3,zq4,zq5,fct]);(try clear fct))
                  simp only [hg4,if_true]
                  exact ⟨trivial,L3,hL3,Sep.sub hS (by repeat first|exact Sub.rfl'|(refine Sub.c (by repeat constructor) ?_)|refine Sub.skip ?_)⟩
              · have hg3:goN go [] (acc.map (·.1)++[r])=(acc.map (·.1)++[r],false):=by rw [hg2,goN,hgr];rfl
                (have fct:=(And.intro @h15 (And.intro @q2 (And.intro @q3 (And.intro @q8 (And.intro @q12 (And.intro @q16 @hgr))))));repeat' (first|((with_reducible apply G.a);exact rfl)|refine G.reg fun K hK=>?_|(with_reducible (refine hK _ _ ?_);clear hK K)|(have hk:=hK;clear hk;simp (disch:=first|exact dis|fail) only [push_cast,↓reduceIte,zq1,zq2,zq3,zq4,zq5,fct])|(refine brO_n ?_ ?_<;>intro hb hc<;>first|(with_reducible exact False.elim hc)|(exfalso;omega)|(simp only [hb];clear hb))|((first|refine zalc ?_|((with_reducible refine gBox ?_);refine zbox ?_));intro gb wb hS)|((with_reducible refine gSt ?_);refine zs2 ?_;intro wb hS)|(refine zcv ?_)|((with_reducible (show CallK _ 88 _ _ _ _ _));have hx:WkS w0 _ gb g d l q st m (boxC g8 77 [I 0,I 0] :: L2):=⟨fv,rv,Sep.sub hS (by repeat first|exact Sub.rfl'|(refine Sub.c (by repeat constructor) ?_)|refine Sub.skip ?_)⟩;refine zco 88 (wstep_spec (b:=s.getD p 0) hx (bd_mono hb (by omega))) ?_;clear hx;intro vb wb hG;rw [hsw] at hG;obtain ⟨rv3,rfl,fv2,rv2,hS⟩:=hG)|((with_reducible (show CallV _ tv _ _ _ _ _));refine hT.ok (M:=[boxC gb 139 [U d.dl,U d.q,I d.e,.pointer (some ⟨g,0,none⟩),I q',I st'],boxC g 192 [I l.F,I l.N,I l.R,.bool l.U,fv2,rv2,I m'.bg,I m'.ct,I m'.wd,I 0],accC fv2 5 eU m'.fl,accC rv2 9 eS m'.rc,boxC g8 77 [I 0,I 0]]) hL hgo (by simp;omega) (by first|(exact Sep.sub (by assumption) (by repeat first|exact Sub.rfl'|(refine Sub.c (by repeat constructor) ?_)|refine Sub.skip ?_))|fail) ?_;intro wb L3 hL3 hS;simp only [apps] at hS)|(refine G.cn ?_ ?_<;>intro hc<;>first|(with_reducible exact False.elim hc)|(exfalso;omega)|skip)))<;>(try clear fct)
                all_goals
                  have fct:=(And.intro @q2 (And.intro @q3 (And.intro @q8 (And.intro @q12 (And.intro @q16 @h15)))));refine ih _ _ ⟨p+1,q',st',m',acc++[(r,p)],L3,fv2,rv2,by omega,by exact sf,by exact sf,by exact sf,by exact sf,by exact sf,by exact sf,e,bd_mono hb2 (by omega),by simp;omega,by rw [hmap,hg3],by rw [hmap];exact hL3,Sep.sub hS (by repeat first|exact Sub.rfl'|(refine Sub.c (by repeat constructor) ?_)|refine Sub.skip ?_)⟩ ?_
                  (simp only [push_cast,↓reduceIte,zq1,zq2,zq3,zq4,zq5,toN_i,h15,q2,q3,q8,q12,q16]<;>omega)
        · have hd:s.drop p=[]:=List.drop_eq_nil_of_le (by omega)
          rw [hd,wrun_nil] at e
          cases hsw:endW l q st m with
          | error k =>
            rw [hsw] at e
            have hk:=endW_err hsw
            have hR2:R=⟨acc,k,p⟩:=by rw [e];simp [Rs.pre]
            subst hR2
            (have fct:=(And.intro @h15 (And.intro @q2 (And.intro @q3 (And.intro @q8 (And.intro @q12 @q16)))));repeat' (first|((with_reducible apply G.a);exact rfl)|refine G.reg fun K hK=>?_|(with_reducible (refine hK _ _ ?_);clear hK K)|(have hk:=hK;clear hk;simp (disch:=first|exact dis|fail) only [push_cast,↓reduceIte,zq1,zq2,zq3,zq4,zq5,fct])|(refine brO_n ?_ ?_<;>intro hb hc<;>first|(with_reducible exact False.elim hc)|(exfalso;omega)|(simp only [hb];clear hb))|((first|refine zalc ?_|((with_reducible refine gBox ?_);refine zbox ?_));intro gb wb hS)|((with_reducible refine gSt ?_);refine zs2 ?_;intro wb hS)|(refine zcv ?_)|((with_reducible (show CallK _ 89 _ _ _ _ _));have hx:WkS w0 _ gb g d l q st m (boxC g8 77 [I 0,I 0] :: L2):=⟨fv,rv,Sep.sub hS (by repeat first|exact Sub.rfl'|(refine Sub.c (by repeat constructor) ?_)|refine Sub.skip ?_)⟩;refine zco 89 (wend_spec hx (bd_mono hb (by omega))) ?_;clear hx;intro vb wb hG;rw [hsw] at hG;obtain ⟨rfl,hS⟩:=hG)|(refine G.cn ?_ ?_<;>intro hc<;>first|(with_reducible exact False.elim hc)|(exfalso;omega)|skip)))<;>(try clear fct)
            all_goals
              (have fct:=(And.intro @h15 (And.intro @q2 (And.intro @q3 (And.intro @q8 (And.intro @q12 @q16)))));(first|refine G.r1 ?_|refine G.r2 ?_|refine G.r3 ?_|refine G.r0 ?_|refine G.d0 ?_);(try simp (disch:=first|exact dis|fail) only [push_cast,↓reduceIte,zq1,zq2,zq3,zq4,zq5,fct]);(try clear fct))
              simp only [hgo,hgo1,Bool.false_eq_true,if_false]
              exact ⟨trivial,L2,hL,Sep.sub hS (by repeat first|exact Sub.rfl'|(refine Sub.c (by repeat constructor) ?_)|refine Sub.skip ?_)⟩
          | ok o =>
            rw [hsw] at e
            cases o with
            | none =>
              have hR2:R=⟨acc,0,0⟩:=by rw [e];simp [Rs.pre,oneR]
              subst hR2
              (have fct:=(And.intro @h15 (And.intro @q2 (And.intro @q3 (And.intro @q8 (And.intro @q12 @q16)))));repeat' (first|((with_reducible apply G.a);exact rfl)|refine G.reg fun K hK=>?_|(with_reducible (refine hK _ _ ?_);clear hK K)|(have hk:=hK;clear hk;simp (disch:=first|exact dis|fail) only [push_cast,↓reduceIte,zq1,zq2,zq3,zq4,zq5,fct])|(refine brO_n ?_ ?_<;>intro hb hc<;>first|(with_reducible exact False.elim hc)|(exfalso;omega)|(simp only [hb];clear hb))|((first|refine zalc ?_|((with_reducible refine gBox ?_);refine zbox ?_));intro gb wb hS)|((with_reducible refine gSt ?_);refine zs2 ?_;intro wb hS)|(refine zcv ?_)|((with_reducible (show CallK _ 89 _ _ _ _ _));have hx:WkS w0 _ gb g d l q st m (boxC g8 77 [I 0,I 0] :: L2):=⟨fv,rv,Sep.sub hS (by repeat first|exact Sub.rfl'|(refine Sub.c (by repeat constructor) ?_)|refine Sub.skip ?_)⟩;refine zco 89 (wend_spec hx (bd_mono hb (by omega))) ?_;clear hx;intro vb wb hG;rw [hsw] at hG;obtain ⟨rfl,hS⟩:=hG)|(refine G.cn ?_ ?_<;>intro hc<;>first|(with_reducible exact False.elim hc)|(exfalso;omega)|skip)))<;>(try clear fct)
              all_goals
                (have fct:=(And.intro @h15 (And.intro @q2 (And.intro @q3 (And.intro @q8 (And.intro @q12 @q16)))));(first|refine G.r1 ?_|refine G.r2 ?_|refine G.r3 ?_|refine G.r0 ?_|refine G.d0 ?_);(try simp (disch:=first|exact dis|fail) only [push_cast,↓reduceIte,zq1,zq2,zq3,zq4,zq5,fct]);(try clear fct))
                simp only [hgo,hgo1,Bool.false_eq_true,if_false]
                exact ⟨by trivial,L2,hL,Sep.sub hS (by repeat first|exact Sub.rfl'|(refine Sub.c (by repeat constructor) ?_)|refine Sub.skip ?_)⟩
            | some r =>
              have hR2:R=⟨acc++[(r,p)],0,0⟩:=by rw [e];simp [Rs.pre,oneR]
              subst hR2
              have hmap:(acc++[(r,p)]).map (·.1)=acc.map (·.1)++[r]:=by simp
              have hg2:=goN_app go [r] (acc.map (·.1)) []
              rw [if_neg (by rw [hgo];simp),hgo1] at hg2
              have hg5:(goN go [] ((acc++[(r,p)]).map (·.1))).1=acc.map (·.1)++[r]:=by
                rw [hmap,hg2,goN]
                split
                · rfl
                · rfl
              (have fct:=(And.intro @h15 (And.intro @q2 (And.intro @q3 (And.intro @q8 (And.intro @q12 @q16)))));repeat' (first|((with_reducible apply G.a);exact rfl)|refine G.reg fun K hK=>?_|(with_reducible (refine hK _ _ ?_);clear hK K)|(have hk:=hK;clear hk;simp (disch:=first|exact dis|fail) only [push_cast,↓reduceIte,zq1,zq2,zq3,zq4,zq5,fct])|(refine brO_n ?_ ?_<;>intro hb hc<;>first|(with_reducible exact False.elim hc)|(exfalso;omega)|(simp only [hb];clear hb))|((first|refine zalc ?_|((with_reducible refine gBox ?_);refine zbox ?_));intro gb wb hS)|((with_reducible refine gSt ?_);refine zs2 ?_;intro wb hS)|(refine zcv ?_)|((with_reducible (show CallK _ 89 _ _ _ _ _));have hx:WkS w0 _ gb g d l q st m (boxC g8 77 [I 0,I 0] :: L2):=⟨fv,rv,Sep.sub hS (by repeat first|exact Sub.rfl'|(refine Sub.c (by repeat constructor) ?_)|refine Sub.skip ?_)⟩;refine zco 89 (wend_spec hx (bd_mono hb (by omega))) ?_;clear hx;intro vb wb hG;rw [hsw] at hG;obtain ⟨rv3,rfl,hS⟩:=hG)|((with_reducible (show CallV _ tv _ _ _ _ _));refine hT.ok (M:=[boxC g8 77 [I 0,I 0]]) hL hgo (by simp;omega) (by first|(exact Sep.sub (by assumption) (by repeat first|exact Sub.rfl'|(refine Sub.c (by repeat constructor) ?_)|refine Sub.skip ?_))|fail) ?_;intro wb L3 hL3 hS;simp only [apps] at hS)|(refine G.cn ?_ ?_<;>intro hc<;>first|(with_reducible exact False.elim hc)|(exfalso;omega)|skip)))<;>(try clear fct)
              all_goals
                (have fct:=(And.intro @h15 (And.intro @q2 (And.intro @q3 (And.intro @q8 (And.intro @q12 @q16)))));(first|refine G.r1 ?_|refine G.r2 ?_|refine G.r3 ?_|refine G.r0 ?_|refine G.d0 ?_);(try simp (disch:=first|exact dis|fail) only [push_cast,↓reduceIte,zq1,zq2,zq3,zq4,zq5,fct]);(try clear fct))
                refine ⟨by simp,L3,by rw [hg5];exact hL3,Sep.sub hS (by repeat first|exact Sub.rfl'|(refine Sub.c (by repeat constructor) ?_)|refine Sub.skip ?_)⟩
end Go.Proofs.YtllanbmpacgigaaGreatDoor
namespace Go.Proofs.YtllanbmpacgigaaGreatDoor
open Nat renaming reduceAdd→zq1,reduceLeDiff→zq2,reduceEqDiff→zq3,reduceLT→zq4
open Int renaming reduceToNat→zq5
set_option linter.unusedSimpArgs false
set_option linter.unusedVariables false
attribute [local irreducible] SemK UnitK StK AlcK BslK CallK CallV Instr.box Builtin.append_ Instr.makeSlice Instr.makeMap Instr.lookup Instr.mapUpdate Instr.sliceAt convert
open Go.RowKit
theorem lit_rdS {w:World} {g n:Nat} {t:TypeId} (ys:List Str) (h:Blk w g t (ys.flatMap eS.f).toArray) (hn:n=ys.length) (hm:ys.length≤1000000):Rd w eS (.slice (some ⟨g,0,none⟩) n n) ys :=
  blk_rd h hn (Nat.le_refl _) (by omega) (fun u hu=>by obtain ⟨s,_,hu⟩:=List.mem_flatMap.1 hu;simp [eS] at hu;subst hu;exact one_s)
theorem goN_true:∀ (x a:List (List Str)),goN (fun _=>true) a x=(a++x,false)
  | [],a=>by simp [goN]
  | r :: x,a=>by rw [goN,if_pos rfl,goN_true x _];simp
theorem pcl_of {gt:Nat} {tv:Value} {vs:List Value} {xss:List (List Str)} {L L1 L2 M:List Chk} {w w0:World} (hS:Sep w0 w L) (h1:Ex (boxC gt 40 [tv]) L L1) (h2:Ex (accC tv 22 eV vs) L1 L2) (h3:Ex (frzC eS vs xss) L2 M) :
    ∃ tv vs,Sep w0 w (boxC gt 40 [tv] :: accC tv 22 eV vs :: frzC eS vs xss :: M):=⟨tv,vs,hS.sub (.c h1 (.c h2 (.c h3 Sub.rfl')))⟩
def c57:MC:=(.seq (.reg [qq 3 (.mv (kb false))]) (.seq (.reg [qq 4 (.ld none (.tmp 1)),qm 5 0,qq 6 (.bsl 22 [(.slice none 0 0)] 1 [⟨0,⟨1,(.tmp 5)⟩⟩]),qq 7 (.raw (.call ⟨(.builtin .append),#[(.tmp 4),(.tmp 6)],#[40,40]⟩) 40),qn (.st 1 (.tmp 1) (.tmp 7))]) (.seq (.reg [qq 3 (.mv (kb true))]) .ret)))
theorem k57:conv Tryz.prog 8 (Tryz.f57.body.getD .skip)=c57:=by kernel_rfl
theorem in57 {a0 a1:Value} {w:World} {R:Value→World→Prop} (h:G Tryz.prog Tryz.f57 8 [.c c57] R (frL 0 [a0,a1]) w):Ret Tryz.prog 57 #[a0,a1] w R:=G.enter (args:=[a0,a1]) Tryz.func57 (c:=Tryz.f57.body.getD .skip) (by kernel_rfl) (by kernel_rfl) (by simp) k57 h
theorem pcl_spec {gt:Nat} {tv rv:Value} {vs:List Value} {xss:List (List Str)} {r:List Str} {M:List Chk} {w w0:World} (hS:Sep w0 w (accC rv 9 eS r :: boxC gt 40 [tv] :: accC tv 22 eV vs :: frzC eS vs xss :: M)) (hl:xss.length≤1000000000) :
    Ret Tryz.prog 57 #[rv,.pointer (some ⟨gt,0,none⟩)] w fun res w'=>res=.bool true∧∃ tv vs,Sep w0 w' (boxC gt 40 [tv] :: accC tv 22 eV vs :: frzC eS vs (xss++[r]) :: M):=by
  refine in57 ?_
  have hlen:=hS.frzLen (.t (.t (.t .h)))
  repeat' (first|((with_reducible apply G.a);exact rfl)|refine G.reg fun K hK=>?_|(with_reducible (refine hK _ _ ?_);clear hK K)|(have hk:=hK;clear hk;simp (disch:=first|exact dis|fail) only [push_cast,↓reduceIte,zq1,zq2,zq3,zq4,zq5,fct])|(refine zbsl ?_;intro gb wb hS)|((with_reducible refine gSt ?_);refine zs2 ?_;intro wb hS)|(refine zap ?_;intro vb wb hS))
  all_goals
    (first|refine G.r1 ?_|refine G.r2 ?_|refine G.r3 ?_|refine G.r0 ?_|refine G.d0 ?_);(try simp (disch:=first|exact dis|fail) only [push_cast,↓reduceIte,zq1,zq2,zq3,zq4,zq5,fct])
    have hS:=hS.frzPush (.h) (.t (.t .h))
    exact pcl_of hS (by repeat constructor) (by repeat constructor) (by repeat constructor)
theorem take_parse (gt:Nat) (E:List Chk):TakeOK (.func (.func 57) #[] #[.pointer (some ⟨gt,0,none⟩)]) (fun xss L=>∃ tv vs,L=boxC gt 40 [tv] :: accC tv 22 eV vs :: frzC eS vs xss :: E) (fun _=>true):=by
  refine ⟨?_⟩
  rintro xss r rv w0 w M L d ρ next ⟨tv,vs,rfl⟩ _ hl hS k
  have hS2:Sep w0 w (accC rv 9 eS r :: boxC gt 40 [tv] :: accC tv 22 eV vs :: frzC eS vs xss :: (E++M)):=hS.sub (.c .h (sub_comm M (boxC gt 40 [tv] :: accC tv 22 eV vs :: frzC eS vs xss :: E)))
  refine zcv ?_
  refine zco 57 (pcl_spec hS2 hl) ?_
  rintro v w' ⟨rfl,tv',vs',hS3⟩
  exact k w' _ ⟨tv',vs',rfl⟩ (Sep.comm (A:=boxC gt 40 [tv'] :: accC tv' 22 eV vs' :: frzC eS vs' (xss++[r]) :: E) hS3)
def c38:MC:=(.seq (.reg [qq 3 (.raw (.box 39 (.tmp 0)) 0),qq 4 (.raw (.box 81 (.tmp 1)) 0),qq 6 (.mv (.const (.slice none 0 0))),qq 7 (.alc 77 [(.int .i64 0),(.int .i64 0)])]) (.seq (.reg [qq 8 (.alc 40 [(.slice none 0 0)])]) (.seq (.reg [qq 10 (.ld (.some 3) (.tmp 3)),qq 11 (.ld (.some 4) (.tmp 4)),qm 12 2,qq 13 (.raw (.makeFunc (.func 57) #[] #[(.tmp 8)]) 23),qq 14 (.call 56 [(.tmp 10),(.tmp 11),(.tmp 12),(.tmp 13)]),qq 9 (.alc 77 [(.int .i64 0),(.int .i64 0)]),qn (.st 2 (.tmp 9) (.tmp 14))]) (.seq (.drg [qq 15 (.ld none (.tmp 8)),qq 16 (.ld (.some 2) (.tmp 9)),qm 6 15,qn (.st 2 (.tmp 7) (.tmp 16))] (.some (.br [] (.leaf [qq 15 (.ld none (.tmp 8)),qm 6 15,qq 16 (.ld (.some 2) (.tmp 9)),qn (.st 2 (.tmp 7) (.tmp 16))]) (.leaf [qq 16 (.ld (.some 2) (.tmp 9)),qq 15 (.ld none (.tmp 8)),qm 6 15,qn (.st 2 (.tmp 7) (.tmp 16))])))) .ret))))
theorem k38:conv Tryz.prog 17 (Tryz.f38.body.getD .skip)=c38:=by kernel_rfl
theorem in38 {a0 a1 a2:Value} {w:World} {R:Value→World→Prop} (h:G Tryz.prog Tryz.f38 17 [.c c38] R (frL 0 [a0,a1,a2]) w):Ret Tryz.prog 38 #[a0,a1,a2] w R:=G.enter (args:=[a0,a1,a2]) Tryz.func38 (c:=Tryz.f38.body.getD .skip) (by kernel_rfl) (by kernel_rfl) (by simp) k38 h
theorem parse_spec (d:Dl) (l:Lm) (s:Str) (w:World) (hl:s.length≤900000) :
    Ret Tryz.prog 38 #[(.agg #[U d.dl,U d.q,I d.e]),(.agg #[I l.F,I l.N,I l.R,.bool l.U]),S s] w fun res w'=>∃ v vs,res=.tuple #[v,.agg #[I (walkM d l s).k,I (walkM d l s).a]]∧Sep w w' [accC v 22 eV vs,frzC eS vs ((walkM d l s).rs.map (·.1))]:=by
  refine in38 ?_
  have hS:=Sep.start w
  repeat' (first|((with_reducible apply G.a);exact rfl)|refine G.reg fun K hK=>?_|(with_reducible (refine hK _ _ ?_);clear hK K)|(with_reducible (refine hK _ ?_);clear hK K;intro wd hxd;have hS:=Sep.ext (by assumption) hxd)|((first|have hk:=hK|have hk:=hK2);clear hk;simp (disch:=(first|exact dis|fail)) only [push_cast,↓reduceIte,zq1,zq2,zq3,zq4,zq5,List.map_toArray])|((first|refine brO_mk ?_ ?_|refine brQ_mk ?_ ?_)<;>intro hb<;>(try simp only [Bool.not_eq_true',Bool.not_eq_false'] at hb)<;>have hc:=hb<;>(try simp only [hcs,reduceCtorEq] at hc)<;>(try (exfalso;omega))<;>simp only [hb]<;>clear hb)|(refine zalc ?_;intro gb wb hS)|(refine zbsl ?_;intro gb wb hS)|((with_reducible (show SemK _ (Instr.box _ _) _ _ _ _));refine zbox ?_;intro gb wb hS)|((with_reducible (show StK _ _ (Value.pointer _) _ _ _ _ _));refine zst ?_;intro wb hS;(try simp only [sets] at hS))|(refine zcv ?_)|((with_reducible (show CallK _ 56 _ _ _ _ _));have hS:=(hS.nil 22 eV).frz0 eS;refine zco 56 (walk_spec (take_parse gb _) d l s (by omega) (L:=boxC gb 40 [.slice none 0 0] :: accC (.slice none 0 0) 22 eV [] :: frzC eS [] [] :: _) (Sep.sub hS (.c (by repeat constructor) (.c (by repeat constructor) (.c (by repeat constructor) Sub.rfl')))) ⟨_,_,rfl⟩) ?_;rw [goN_true];rintro vb wb ⟨rfl,L3,⟨tv,vs,rfl⟩,hS⟩;simp only [Bool.false_eq_true,if_false,List.nil_append] at hS ⊢)|(refine G.drt mixed fun K hK wd hxd=>?_;have hS:=Sep.ext (by assumption) hxd)|with_reducible refine OT_leaf ?_|(with_reducible refine OT_tail fun K2 hK2=>?_)|(with_reducible (refine hK2 _ ?_);clear hK2 K2;intro wd hxd;have hS:=Sep.ext (by assumption) hxd)|with_reducible refine OT_br fun K2 hK2=>?_|(refine hK2 _ _ ?_ ?_<;>clear hK2 K2)|refine G.drg mixed fun K hK=>?_|(refine G.cond (by simp only [push_cast,↓reduceIte,zq1,zq2,zq3,zq4,zq5,List.map_toArray];rfl) ?_ ?_<;>intro hc<;>(try simp only [hcs,reduceCtorEq] at hc)<;>(try (exfalso;omega))))
  all_goals
    (first|refine G.r1 ?_|refine G.r2 ?_|refine G.r3 ?_|refine G.r0 ?_|refine G.d0 ?_);(try simp (disch:=first|exact dis|fail) only [push_cast,↓reduceIte,zq1,zq2,zq3,zq4,zq5,fct])
    exact ⟨_,_,rfl,Sep.sub hS (.c (by repeat constructor) (.c (by repeat constructor) Sub.nil0))⟩
theorem parse_spec2 (d:Dl) (l:Lm) (s:Str) (w:World) (hl:s.length≤900000) {R:Rs} {n:Nat} (hR:walkM d l s=R) (hn:R.rs.length=n:=by rfl) :
    Ret Tryz.prog 38 #[(.agg #[U d.dl,U d.q,I d.e]),(.agg #[I l.F,I l.N,I l.R,.bool l.U]),S s] w fun res w'=>∃ v vs,res=.tuple #[v,.agg #[I R.k,I R.a]]∧vs.length=n∧Sep w w' [accC v 22 eV vs,frzC eS vs (R.rs.map (·.1))]:=by
  subst hR;subst hn
  refine (parse_spec d l s w hl).mono ?_
  rintro res w' ⟨v,vs,h1,hS⟩
  have hl:=hS.frzLen (.t .h)
  rw [List.length_map] at hl
  exact ⟨v,vs,h1,hl,hS⟩
theorem right_rt {d:Dl} (h:rightD d=true):Rt d:=by
  unfold rightD mayB at h
  simp only [Bool.and_eq_true,decide_eq_true_eq,Bool.not_eq_true',decide_eq_false_iff_not] at h
  obtain ⟨⟨⟨h1,h2⟩,h3⟩,h4⟩:=h
  exact ⟨h2.2.1,h2.2.2,h1.2.1,h1.2.2,h3⟩
end Go.Proofs.YtllanbmpacgigaaGreatDoor
namespace Go.Proofs.YtllanbmpacgigaaGreatDoor
open Nat renaming reduceAdd→zq1,reduceLeDiff→zq2,reduceEqDiff→zq3,reduceLT→zq4
open Int renaming reduceToNat→zq5
set_option linter.unusedSimpArgs false
set_option linter.unusedVariables false
def wideL:Lm:=⟨2147483648,2147483648,2147483648,false⟩
theorem wrun_len (d:Dl) (l:Lm):∀ (t:Str) (q st:Int) (m:Mk) (p:Nat),(wrun d l q st m p t).rs.length≤t.length+1:=by
  intro t
  induction t with
  | nil =>
    intro q st m p
    rw [wrun_nil]
    cases h:endW l q st m with
    | error k=>simp
    | ok r=>cases r<;>simp [oneR]
  | cons b t ih =>
    intro q st m p
    rw [wrun_cons]
    cases h:stepW d l q st m b with
    | error k=>simp
    | ok x =>
      have:=ih x.1 x.2.1 x.2.2.1 (p+1)
      cases hx:x.2.2.2<;>simp [Rs.pre,oneR,hx]<;>omega
theorem parM_len (d:Dl) (l:Lm) (s:Str):(parM d l s).rs.length≤s.length+1:=by
  have h1:=wrun_len d l (stripM s) 0 0 {} (s.length - (stripM s).length)
  have h2:=(strip_drop s).2
  unfold parM
  omega
end Go.Proofs.YtllanbmpacgigaaGreatDoor
namespace Go.Proofs.YtllanbmpacgigaaGreatDoor
open Nat renaming reduceAdd→zq1,reduceLeDiff→zq2,reduceEqDiff→zq3,reduceLT→zq4
open Int renaming reduceToNat→zq5
set_option linter.unusedSimpArgs false
set_option linter.unusedVariables false
attribute [local irreducible] SemK UnitK StK AlcK BslK CallK CallV Instr.box Builtin.append_ Instr.makeSlice Instr.makeMap Instr.lookup Instr.mapUpdate Instr.sliceAt convert
open Go.RowKit
def c72:MC:=(.seq (.reg [qq 0 (.alc 81 [(.int .i64 0),(.int .i64 0),(.int .i64 0),(.bool false)])]) (.seq (.reg [qq 1 (.bld [(.int .i64 0),(.int .i64 0),(.int .i64 0),(.bool false)] [⟨0,⟨1,(ki 2147483648)⟩⟩,⟨1,⟨1,(ki 2147483648)⟩⟩,⟨2,⟨1,(ki 2147483648)⟩⟩]),qn (.st 4 (.tmp 0) (.tmp 1))]) .ret))
theorem k72:conv Tryz.prog 2 (Tryz.f72.body.getD .skip)=c72:=by kernel_rfl
theorem in72 {w:World} {R:Value→World→Prop} (h:G Tryz.prog Tryz.f72 2 [.c c72] R (frL 0 []) w):Ret Tryz.prog 72 #[] w R:=G.enter (args:=[]) Tryz.func72 (c:=Tryz.f72.body.getD .skip) (by kernel_rfl) (by kernel_rfl) (by simp) k72 h
theorem wide_spec (w:World):Pu Tryz.prog 72 #[] w (.agg #[I 2147483648,I 2147483648,I 2147483648,.bool false]):=by
  refine in72 ?_
  have hS:=Sep.start w
  repeat' (first|((with_reducible apply G.a);exact rfl)|refine G.reg fun K hK=>?_|(with_reducible (refine hK _ _ ?_);clear hK K)|(have hk:=hK;clear hk;simp (disch:=first|exact dis|fail) only [push_cast,↓reduceIte,zq1,zq2,zq3,zq4,zq5,fct])|(refine zalc ?_;intro gb wb hS)|((with_reducible refine gSt ?_);refine zs2 ?_;intro wb hS))
  all_goals
    (first|refine G.r1 ?_|refine G.r2 ?_|refine G.r3 ?_|refine G.r0 ?_|refine G.d0 ?_);(try simp (disch:=first|exact dis|fail) only [push_cast,↓reduceIte,zq1,zq2,zq3,zq4,zq5,fct])
    exact Sep.xt (by assumption)
theorem wpar_spec (d:Dl) (s:Str) (w:World) (hl:s.length≤900000) (hr:rightD d=true) :
    Ret Tryz.prog 38 #[(.agg #[U d.dl,U d.q,I d.e]),.agg #[I 2147483648,I 2147483648,I 2147483648,.bool false],S s] w fun res w'=>∃ v vs,res=.tuple #[v,.agg #[I (parM d wideL s).k,I (parM d wideL s).a]]∧vs.length=(parM d wideL s).rs.length∧Sep w w' [accC v 22 eV vs,frzC eS vs ((parM d wideL s).rs.map Prod.fst)] :=
  parse_spec2 d wideL s w hl (by unfold walkM;rw [if_neg (by rw [hr];decide),if_neg (by decide)])
end Go.Proofs.YtllanbmpacgigaaGreatDoor
namespace Go.Proofs.YtllanbmpacgigaaGreatDoor
open Nat renaming reduceAdd→zq1,reduceLeDiff→zq2,reduceEqDiff→zq3,reduceLT→zq4
open Int renaming reduceToNat→zq5
set_option linter.unusedSimpArgs false
set_option linter.unusedVariables false
def spW (d:Dl) (l:Lm) (q st:Int) (m:Mk) (fr to p:Nat):Str→List (Nat×Nat)
  | []=>match endW l q st m with
    | .ok (some _)=>[(fr,p)]
    | _=>[]
  | b :: t=>match stepW d l q st m b with
    | .error _=>[]
    | .ok x=>(if x.2.2.2.isSome=true then [(if (scM d st b).1.b=true then p else fr,if (scM d st b).1.l=true then p else to)] else []) ++
        spW d l x.1 x.2.1 x.2.2.1 (if (scM d st b).1.b=true then p else fr) (if (scM d st b).1.l=true then p else to) (p+1) t
theorem spW_len (d:Dl) (l:Lm):∀ (t:Str) (q st:Int) (m:Mk) (fr to p:Nat),(spW d l q st m fr to p t).length=(wrun d l q st m p t).rs.length:=by
  intro t
  induction t with
  | nil =>
    intro q st m fr to p
    rw [spW,wrun_nil]
    cases h:endW l q st m with
    | error k=>rfl
    | ok r=>cases r<;>rfl
  | cons b t ih =>
    intro q st m fr to p
    rw [spW,wrun_cons]
    cases h:stepW d l q st m b with
    | error k=>rfl
    | ok x =>
      simp only [List.length_append,Rs.pre,ih]
      cases hx:x.2.2.2<;>simp [oneR]
theorem wrun_ends (d:Dl) (l:Lm):∀ (t:Str) (q st:Int) (m:Mk) (p:Nat),(∀ x∈(wrun d l q st m p t).rs,p≤x.2∧x.2≤p+t.length∧((wrun d l q st m p t).k≠0→x.2 < (wrun d l q st m p t).a)) ∧
    ((wrun d l q st m p t).k≠0→p≤(wrun d l q st m p t).a∧(wrun d l q st m p t).a≤p+t.length):=by
  intro t
  induction t with
  | nil =>
    intro q st m p
    rw [wrun_nil]
    cases h:endW l q st m with
    | error k=>exact ⟨fun x hx=>by simp at hx,fun _=>⟨Nat.le_refl _,by simp⟩⟩
    | ok r =>
      refine ⟨fun x hx=>?_,fun h=>absurd rfl h⟩
      have:=one_end x hx
      exact ⟨by omega,by simp;omega,fun h=>absurd rfl h⟩
  | cons b t ih =>
    intro q st m p
    rw [wrun_cons]
    cases h:stepW d l q st m b with
    | error k=>exact ⟨fun x hx=>by simp at hx,fun _=>⟨Nat.le_refl _,by simp⟩⟩
    | ok x =>
      obtain ⟨h1,h2⟩:=ih x.1 x.2.1 x.2.2.1 (p+1)
      simp only [Rs.pre,List.length_cons]
      refine ⟨fun y hy=>?_,fun hk=>?_⟩
      · rcases List.mem_append.1 hy with hy|hy
        · have:=one_end y hy
          refine ⟨by omega,by omega,fun hk=>?_⟩
          have:=h2 hk;omega
        · have:=h1 y hy
          exact ⟨by omega,by omega,this.2.2⟩
      · have:=h2 hk;omega
theorem stepW_sc {d:Dl} {l:Lm} {q st:Int} {m:Mk} {b:UInt8} {x:Int×Int×Mk×Option (List Str)} (h:stepW d l q st m b=.ok x):(scM d st b).2.2=0∧x.2.1=(scM d st b).2.1∧(x.2.2.2.isSome=(scM d st b).1.r):=by
  unfold stepW at h
  split at h
  · simp at h
  · split at h
    · simp at h
    · rename_i y hy
      injection h with h;subst h
      unfold stepR at hy
      split at hy
      · simp at hy
      · rename_i h0
        split at hy
        · simp at hy
        · rename_i z hz
          injection hy with hy;subst hy
          refine ⟨by omega,rfl,?_⟩
          unfold takeM at hz
          split at hz
          · simp at hz
          · split at hz
            · rename_i hr;injection hz with hz;subst hz;simp [hr]
            · rename_i hr;injection hz with hz;subst hz;simpa using hr
theorem endW_rec {l:Lm} {q st:Int} {m:Mk} {r:List Str} (h:endW l q st m=.ok (some r)):aft st:=by
  unfold endW at h
  split at h
  · simp at h
  · unfold endR at h
    split at h
    · simp at h
    · split at h
      · simp at h
      · rename_i z hz
        simp only [Except.ok.injEq] at h
        unfold takeM at hz
        split at hz
        · simp at hz
        · split at hz
          · rename_i hr
            unfold closeM at hr
            unfold aft
            by_cases hs:st=1∨st=2∨st=4
            · exact hs
            · rw [if_neg hs] at hr
              split at hr
              · simp at hr
              · split at hr<;>simp at hr
          · injection hz with hz;subst hz;simp at h
def inR (st:Int):Prop:=st=1∨st=2∨st=3∨st=4
def outR (st:Int):Prop:=st=0∨st=6
theorem sc_kinds (d:Dl) (st:Int) (b:UInt8) (hs:outR st∨inR st∨st=5) (he:(scM d st b).2.2=0) :
    (outR st→(scM d st b).1.l=false∧(scM d st b).1.r=false∧((scM d st b).1.b=false∧outR (scM d st b).2.1∨(scM d st b).1.b=true∧inR (scM d st b).2.1)) ∧
    (inR st→(scM d st b).1.b=false∧((scM d st b).1.l=false∧(scM d st b).1.r=false∧inR (scM d st b).2.1∨(scM d st b).1.l=true∧(scM d st b).1.r=false∧(scM d st b).2.1=5∨(scM d st b).1.l=true∧(scM d st b).1.r=true∧outR (scM d st b).2.1)) ∧
    (st=5→(scM d st b).1.b=false∧(scM d st b).1.l=false∧(scM d st b).1.r=true∧outR (scM d st b).2.1):=by
  unfold outR inR at *
  refine ⟨fun h=>?_,fun h=>?_,fun h=>?_⟩
  · rcases h with rfl|rfl
    · unfold scM startM at he ⊢
      simp only [if_true] at he ⊢
      repeat' split at he
      all_goals simp_all
    · by_cases hb:(b.toNat:Int)=10
      · simp [scM,hb]
      · simp [scM,hb] at he
  · rcases h with rfl|rfl|rfl|rfl
    · unfold scM inM at he ⊢
      simp only [show ¬ ((1:Int)=0) by decide,show ((1:Int)=1∨(1:Int)=2∨(1:Int)=4) by decide,if_true,if_false] at he ⊢
      repeat' split at he
      all_goals simp_all
    · unfold scM inM at he ⊢
      simp only [show ¬ ((2:Int)=0) by decide,show ((2:Int)=1∨(2:Int)=2∨(2:Int)=4) by decide,if_true,if_false] at he ⊢
      repeat' split at he
      all_goals simp_all
    · by_cases hb:(b.toNat:Int)=d.q<;>simp [scM,hb]
    · unfold scM inM at he ⊢
      simp only [show ¬ ((4:Int)=0) by decide,show ((4:Int)=1∨(4:Int)=2∨(4:Int)=4) by decide,if_true,if_false] at he ⊢
      repeat' split at he
      all_goals simp_all
  · subst h
    by_cases hb:(b.toNat:Int)=10
    · simp [scM,hb]
    · simp [scM,hb] at he
theorem spW_head (d:Dl) (l:Lm):∀ (t:Str) (q st:Int) (m:Mk) (fr to p:Nat) (x:Nat×Nat) (r:List (Nat×Nat)),inR st∨st=5→spW d l q st m fr to p t=x :: r→x.1=fr∧(st=5→x.2=to):=by
  intro t
  induction t with
  | nil =>
    intro q st m fr to p x r hs h
    rw [spW] at h
    split at h
    · rename_i r' he
      simp only [List.cons.injEq] at h
      refine ⟨by rw [←h.1],fun h5=>?_⟩
      have:=endW_rec he
      unfold aft at this
      omega
    · simp at h
  | cons b t ih =>
    intro q st m fr to p x r hs h
    rw [spW] at h
    cases he:stepW d l q st m b with
    | error k=>rw [he] at h;simp at h
    | ok y =>
      rw [he] at h
      simp only at h
      obtain ⟨e0,e1,e2⟩:=stepW_sc he
      obtain ⟨_,k2,k3⟩:=sc_kinds d st b (.inr hs) e0
      rcases hs with hs|hs
      · obtain ⟨hb,hk⟩:=k2 hs
        rw [hb] at h
        simp only [Bool.false_eq_true,if_false] at h
        have h5:¬ st=5:=by unfold inR at hs;omega
        rcases hk with ⟨hl,hr,hi⟩|⟨hl,hr,hi⟩|⟨hl,hr,hi⟩
        · rw [e2,hr,hl] at h
          simp only [Bool.false_eq_true,if_false,List.nil_append] at h
          exact ⟨(ih _ _ _ _ _ _ x r (by rw [e1];exact .inl hi) h).1,fun h=>absurd h h5⟩
        · rw [e2,hr,hl] at h
          simp only [Bool.false_eq_true,if_false,if_true,List.nil_append] at h
          exact ⟨(ih _ _ _ _ _ _ x r (by rw [e1];exact .inr hi) h).1,fun h=>absurd h h5⟩
        · rw [e2,hr] at h
          simp only [if_true,List.singleton_append,List.cons.injEq] at h
          exact ⟨by rw [←h.1],fun h=>absurd h h5⟩
      · obtain ⟨hb,hl,hr,hi⟩:=k3 hs
        rw [e2,hb,hl,hr] at h
        simp only [Bool.false_eq_true,if_false,if_true,List.singleton_append,List.cons.injEq] at h
        exact ⟨by rw [←h.1],fun _=>by rw [←h.1]⟩
def spM (d:Dl) (s:Str):List (Nat×Nat):=spW d wideL 0 0 {} 0 0 (s.length - (stripM s).length) (stripM s)
theorem spM_len (d:Dl) (s:Str):(spM d s).length=(parM d wideL s).rs.length:=spW_len _ _ _ _ _ _ _ _ _
end Go.Proofs.YtllanbmpacgigaaGreatDoor
namespace Go.Proofs.YtllanbmpacgigaaGreatDoor
open Nat renaming reduceAdd→zq1,reduceLeDiff→zq2,reduceEqDiff→zq3,reduceLT→zq4
open Int renaming reduceToNat→zq5
set_option linter.unusedSimpArgs false
set_option linter.unusedVariables false
def MB (m:Mk) (c n:Nat):Prop:=m.rc.length≤c∧m.fl.length≤n∧∀ x∈m.rc,x.length≤n
theorem MB.up {m:Mk} {c n c' n':Nat} (h:MB m c n) (hc:c≤c') (hn:n≤n'):MB m c' n':=⟨Nat.le_trans h.1 hc,Nat.le_trans h.2.1 hn,fun x hx=>Nat.le_trans (h.2.2 x hx) hn⟩
theorem MB.put {m:Mk} {c n:Nat} (h:MB m c n):MB m.put (c+1) n:=by
  obtain ⟨h1,h2,h3⟩:=h
  refine ⟨by simp [Mk.put,h1],by simp [Mk.put],fun x hx=>?_⟩
  simp only [Mk.put,List.mem_append,List.mem_singleton] at hx
  rcases hx with hx|hx
  · exact h3 x hx
  · rw [hx];exact h2
theorem gather_mb {l:Lm} {m m':Mk} {e:Ev} {c n:Nat} (h:gather l m e=.ok m') (hb:MB m c n):MB m' (c+2) (n+1):=by
  unfold gather at h
  split at h
  · simp at h
  · rename_i m1 h1
    have b1:MB m1 c n:=by
      unfold gBegin at h1
      split at h1
      · split at h1
        · simp at h1
        · injection h1 with h1;subst h1;exact hb
      · injection h1 with h1;subst h1;exact hb
    split at h
    · simp at h
    · rename_i m2 h2
      have b2:MB m2 c (n+1):=by
        unfold gAdd at h2
        split at h2
        · split at h2
          · simp at h2
          · injection h2 with h2;subst h2
            exact ⟨b1.1,by simp only [List.length_append,List.length_singleton];have:=b1.2.1;omega,fun x hx=>Nat.le_succ_of_le (b1.2.2 x hx)⟩
        · injection h2 with h2;subst h2;exact b1.up (Nat.le_refl _) (Nat.le_succ _)
      split at h
      · simp at h
      · rename_i m3 h3
        have b3:MB m3 (c+1) (n+1):=by
          unfold gField at h3
          split at h3
          · split at h3
            · simp at h3
            · split at h3
              · simp at h3
              · injection h3 with h3;subst h3;exact b2.put
          · injection h3 with h3;subst h3;exact b2.up (Nat.le_succ _) (Nat.le_refl _)
        unfold gLine at h
        split at h
        · split at h
          · simp at h
          · injection h with h;subst h;exact b3.put
        · injection h with h;subst h;exact b3.up (Nat.le_succ _) (Nat.le_refl _)
theorem take_mb {l:Lm} {m:Mk} {e:Ev} {c n:Nat} {x:Mk×Option (List Str)} (h:takeM l m e=.ok x) (hb:MB m c n):MB x.1 (c+2) (n+1)∧∀ r,x.2=some r→r.length≤c+2∧∀ f∈r,f.length≤n+1:=by
  unfold takeM at h
  split at h
  · simp at h
  · rename_i m1 h1
    have b1:=gather_mb h1 hb
    split at h
    · injection h with h;subst h
      refine ⟨⟨by simp [Mk.out],b1.2.1,by simp [Mk.out]⟩,fun r hr=>?_⟩
      simp only [Option.some.injEq] at hr
      subst hr
      exact ⟨b1.1,b1.2.2⟩
    · injection h with h;subst h
      exact ⟨b1,fun r hr=>by simp at hr⟩
theorem wrun_mb (d:Dl) (l:Lm):∀ (t:Str) (q st:Int) (m:Mk) (p c n:Nat),MB m c n→∀ x∈(wrun d l q st m p t).rs,x.1.length≤c+2 * (t.length+1)∧∀ f∈x.1,f.length≤n+(t.length+1):=by
  intro t
  induction t with
  | nil =>
    intro q st m p c n hb x hx
    rw [wrun_nil] at hx
    cases h:endW l q st m with
    | error k=>rw [h] at hx;simp at hx
    | ok r =>
      rw [h] at hx
      cases r with
      | none=>simp [oneR] at hx
      | some r =>
        simp only [oneR,List.mem_singleton] at hx
        subst hx
        unfold endW at h
        split at h
        · simp at h
        · unfold endR at h
          split at h
          · simp at h
          · split at h
            · simp at h
            · rename_i z hz
              have:=(take_mb hz hb).2 r (by simpa using h)
              exact ⟨by simpa using this.1,by simpa using this.2⟩
  | cons b t ih =>
    intro q st m p c n hb x hx
    rw [wrun_cons] at hx
    cases h:stepW d l q st m b with
    | error k=>rw [h] at hx;simp at hx
    | ok y =>
      rw [h] at hx
      simp only [Rs.pre,List.mem_append] at hx
      have hy : MB y.2.2.1 (c+2) (n+1)∧∀ r,y.2.2.2=some r→r.length≤c+2∧∀ f∈r,f.length≤n+1:=by
        unfold stepW at h
        split at h
        · simp at h
        · split at h
          · simp at h
          · rename_i z hz
            injection h with h;subst h
            unfold stepR at hz
            split at hz
            · simp at hz
            · split at hz
              · simp at hz
              · rename_i u hu
                injection hz with hz;subst hz
                exact take_mb hu hb
      rcases hx with hx|hx
      · cases hr:y.2.2.2 with
        | none=>rw [hr] at hx;simp [oneR] at hx
        | some r =>
          rw [hr] at hx
          simp only [oneR,List.mem_singleton] at hx
          subst hx
          have:=hy.2 r hr
          refine ⟨by simp only [List.length_cons];omega,fun f hf=>?_⟩
          have:=this.2 f hf
          simp only [List.length_cons];omega
      · have:=ih _ _ _ _ _ _ hy.1 x hx
        refine ⟨by simp only [List.length_cons];omega,fun f hf=>?_⟩
        have:=this.2 f hf
        simp only [List.length_cons];omega
theorem parM_mb (d:Dl) (l:Lm) (s:Str):∀ r∈(parM d l s).rs.map Prod.fst,r.length≤2 * (s.length+1)∧∀ f∈r,f.length≤s.length+1:=by
  intro r hr
  obtain ⟨x,hx,rfl⟩:=List.mem_map.1 hr
  have:=wrun_mb d l (stripM s) 0 0 {} _ 0 0 ⟨by simp,by simp,by simp⟩ x hx
  have hl:=(strip_drop s).2
  exact ⟨by omega,fun f hf=>by have:=this.2 f hf;omega⟩
end Go.Proofs.YtllanbmpacgigaaGreatDoor
namespace Go.Proofs.YtllanbmpacgigaaGreatDoor
open Nat renaming reduceAdd→zq1,reduceLeDiff→zq2,reduceEqDiff→zq3,reduceLT→zq4
open Int renaming reduceToNat→zq5
set_option linter.unusedSimpArgs false
set_option linter.unusedVariables false
attribute [local irreducible] SemK UnitK StK AlcK BslK CallK CallV Instr.box Builtin.append_ Instr.makeSlice Instr.makeMap Instr.lookup Instr.mapUpdate Instr.sliceAt convert
open Go.RowKit
end Go.Proofs.YtllanbmpacgigaaGreatDoor
namespace Go.Proofs.YtllanbmpacgigaaGreatDoor
open Nat renaming reduceAdd→zq1,reduceLeDiff→zq2,reduceEqDiff→zq3,reduceLT→zq4
open Int renaming reduceToNat→zq5
set_option linter.unusedSimpArgs false
set_option linter.unusedVariables false
attribute [local irreducible] SemK UnitK StK AlcK BslK CallK CallV Instr.box Builtin.append_ Instr.makeSlice Instr.makeMap Instr.lookup Instr.mapUpdate Instr.sliceAt convert
open Go.RowKit
theorem walkM_top:walkM ⟨44,34,1⟩ ⟨9,9,9,false⟩ [97,44,34,98,34,10]=⟨[([[97],[98]],5)],0,0⟩:=by kernel_rfl
def c22:MC:=(.seq (.reg [qq 0 (.mv (kb false))]) (.seq (.reg [qq 4 (.bld [(.int .u8 0),(.int .u8 0),(.int .i64 0)] [⟨0,⟨1,(.const (.int .u8 44))⟩⟩,⟨1,⟨1,(.const (.int .u8 34))⟩⟩,⟨2,⟨1,(ki 1)⟩⟩]),qq 5 (.bld [(.int .i64 0),(.int .i64 0),(.int .i64 0),(.bool false)] [⟨0,⟨1,(ki 9)⟩⟩,⟨1,⟨1,(ki 9)⟩⟩,⟨2,⟨1,(ki 9)⟩⟩]),qq 6 (.call 38 [(.tmp 4),(.tmp 5),(.const (S [97,44,34,98,34,10]))]),qm 3 6,qq 7 (.ext 0 (.tmp 3)),qq 8 (.ext 1 (.tmp 3)),qq 2 (.alc 77 [(.int .i64 0),(.int .i64 0)]),qm 1 7,qn (.st 2 (.tmp 2) (.tmp 8))]) (.seq (.reg [qm 9 1,qq 10 (.len (.tmp 9)),qq 11 (.bin .eql (.tmp 10) (ki 1)),qm 12 11,qmt 12 13 1,qt 12 14 (.adr 1 (.tmp 13) (ki 0)),qt 12 15 (.ld none (.tmp 14)),qt 12 16 (.len (.tmp 15)),qt 12 17 (.bin .eql (.tmp 16) (ki 2)),qq 18 (.pick (.tmp 12) (.tmp 17) (kb false)),qm 19 18,qmt 19 20 1,qt 19 21 (.adr 1 (.tmp 20) (ki 0)),qt 19 22 (.ld none (.tmp 21)),qt 19 23 (.adr 1 (.tmp 22) (ki 1)),qt 19 24 (.ld none (.tmp 23)),qt 19 25 (.bin .eql (.tmp 24) (.const (S [98]))),qq 26 (.pick (.tmp 19) (.tmp 25) (kb false)),qm 27 26,qt 27 28 (.ld (.some 2) (.tmp 2)),qt 27 29 (.bld [(.int .i64 0),(.int .i64 0)] []),qt 27 30 (.eqA false [.i,.i] (.tmp 28) (.tmp 29)),qq 31 (.pick (.tmp 27) (.tmp 30) (kb false)),qm 0 31]) .ret)))
theorem k22:conv Tryz.prog 32 (Tryz.f22.body.getD .skip)=c22:=by kernel_rfl
theorem in22 {w:World} {R:Value→World→Prop} (h:G Tryz.prog Tryz.f22 32 [.c c22] R (frL 0 []) w):Ret Tryz.prog 22 #[] w R:=G.enter (args:=[]) Tryz.func22 (c:=Tryz.f22.body.getD .skip) (by kernel_rfl) (by kernel_rfl) (by simp) k22 h
theorem alive_spec (w:World):Pu Tryz.prog 22 #[] w (.bool true):=by
  refine in22 ?_
  have hS:=Sep.start w
  have hp:∀ w,Ret Tryz.prog 38 #[.agg #[U 44,U 34,I 1],.agg #[I 9,I 9,I 9,.bool false],S [97,44,34,98,34,10]] w fun res w'=>∃ v v0,res=.tuple #[v,.agg #[I 0,I 0]]∧Sep w w' [accC v 22 eV [v0],frzC eS [v0] [[[97],[98]]]]:=by
    intro w
    have h:=parse_spec ⟨44,34,1⟩ ⟨9,9,9,false⟩ [97,44,34,98,34,10] w (by decide)
    rw [walkM_top] at h
    refine h.mono ?_
    rintro res w' ⟨v,vs,h1,hS⟩
    have hl:=hS.frzLen (.t .h)
    match vs,hl with
    | [v0],_=>exact ⟨v,v0,h1,hS⟩
  repeat' (first|((with_reducible apply G.a);exact rfl)|refine G.reg fun K hK=>?_|(with_reducible (refine hK _ _ ?_);clear hK K)|(have hk:=hK;clear hk;simp (disch:=first|exact dis|fail) only [push_cast,↓reduceIte,zq1,zq2,zq3,zq4,zq5,fct])|(refine brO_n ?_ ?_<;>intro hb hc<;>first|(with_reducible exact False.elim hc)|(exfalso;omega)|(simp only [hb];clear hb))|(refine zalc ?_;intro gb wb hS)|((with_reducible refine gSt ?_);refine zs2 ?_;intro wb hS)|(refine zco 38 (hp _) ?_;rintro vb wb ⟨v,v0,rfl,hS2⟩;have hS:=hS2.ap;simp only [apps] at hS))
  have hfz:Rd _ eS v0 [[97],[98]]:=Sep.frzAt hS (.t (.t .h)) (i:=0) (by decide)
  repeat' (first|((with_reducible apply G.a);exact rfl)|refine G.reg fun K hK=>?_|(with_reducible (refine hK _ _ ?_);clear hK K)|(have hk:=hK;clear hk;simp (disch:=first|exact dis|fail) only [push_cast,↓reduceIte,zq1,zq2,zq3,zq4,zq5,fct])|(refine brO_n ?_ ?_<;>intro hb hc<;>first|(with_reducible exact False.elim hc)|(exfalso;omega)|(simp only [hb];clear hb))|(refine zalc ?_;intro gb wb hS)|((with_reducible refine gSt ?_);refine zs2 ?_;intro wb hS))
  all_goals
    (first|refine G.r1 ?_|refine G.r2 ?_|refine G.r3 ?_|refine G.r0 ?_|refine G.d0 ?_);(try simp (disch:=first|exact dis|fail) only [push_cast,↓reduceIte,zq1,zq2,zq3,zq4,zq5,fct])
    exact Sep.xt (by assumption)
def c19:MC:=(.seq (.reg [qq 2 (.mv (kb false))]) (.seq (.reg [qm 3 0,qq 4 (.call 37 [(.tmp 3),(ki 12),(ki 8),(ki 200)]),qq 5 (.un .not (.tmp 4)),qm 2 5]) .ret))
theorem k19:conv Tryz.prog 6 (Tryz.f19.body.getD .skip)=c19:=by kernel_rfl
theorem in19 {a0:Value} {w:World} {R:Value→World→Prop} (h:G Tryz.prog Tryz.f19 6 [.c c19] R (frL 0 [a0]) w):Ret Tryz.prog 19 #[a0] w R:=G.enter (args:=[a0]) Tryz.func19 (c:=Tryz.f19.body.getD .skip) (by kernel_rfl) (by kernel_rfl) (by simp) k19 h
theorem small_spec {v:Value} {t:List (List Str)} {w:World} (hr:RdN w eS v t):Pu Tryz.prog 19 #[v] w (.bool (!greatM t 12 8 200)):=by
  refine in19 ?_
  have hS:=Sep.start w
  repeat' (first|((with_reducible apply G.a);exact rfl)|refine G.reg fun K hK=>?_|(with_reducible (refine hK _ _ ?_);clear hK K)|(have hk:=hK;clear hk;simp (disch:=first|exact dis|fail) only [push_cast,↓reduceIte,zq1,zq2,zq3,zq4,zq5,fct])|(refine zcp 37 (great_spec hr (by decide) (by decide)) ?_;intro wb hS))
  all_goals
    (first|refine G.r1 ?_|refine G.r2 ?_|refine G.r3 ?_|refine G.r0 ?_|refine G.d0 ?_);(try simp (disch:=first|exact dis|fail) only [push_cast,↓reduceIte,zq1,zq2,zq3,zq4,zq5,fct])
    exact Sep.xt (by assumption)
end Go.Proofs.YtllanbmpacgigaaGreatDoor
