/- Texts of the proof, joined. -/
import Derived.Test.YtllanbmpacgigaaGreatDoorCP15
import Derived.Test.YtllanbmpacgigaaGreatDoorCR02
import Derived.Test.YtllanbmpacgigaaGreatDoorCW02
namespace Go.Proofs.YtllanbmpacgigaaGreatDoor
open Nat renaming reduceAdd→zq1,reduceLeDiff→zq2,reduceEqDiff→zq3,reduceLT→zq4
open Int renaming reduceToNat→zq5
set_option linter.unusedSimpArgs false
set_option linter.unusedVariables false
attribute [local irreducible] SemK UnitK StK AlcK BslK CallK CallV Instr.box Builtin.append_ Instr.makeSlice Instr.makeMap Instr.lookup Instr.mapUpdate Instr.sliceAt convert
open Go.RowKit
def c103:MC:=(.seq (.reg [qq 2 (.mv (.const (.slice none 0 0)))]) (.seq (.seq (.reg [qm 3 0,qq 4 (.raw (.binOp .eql 22 (.tmp 3) (.const (.slice none 0 0)) 22) 4)]) (.cond (.tmp 4) (.seq (.reg [qq 2 (.mv (.const (.slice none 0 0)))]) .ret) .skip)) (.seq (.reg [qq 5 (.bsl 9 [] 0 []),qm 6 0,qq 7 (.raw (.call ⟨(.builtin .append),#[(.tmp 5),(.tmp 6)],#[22,22]⟩) 22),qm 2 7]) .ret)))
theorem k103:conv Tryz.prog 8 (Tryz.f103.body.getD .skip)=c103:=by kernel_rfl
theorem in103 {a0:Value} {w:World} {R:Value→World→Prop} (h:G Tryz.prog Tryz.f103 8 [.c c103] R (frL 0 [a0]) w):Ret Tryz.prog 103 #[a0] w R:=G.enter (args:=[a0]) Tryz.func103 (c:=Tryz.f103.body.getD .skip) (by kernel_rfl) (by kernel_rfl) (by simp) k103 h
theorem clone_spec {v:Value} {l:List Str} {w:World} (hr:Rd w eS v l) (hl:l.length≤1000000000000):Ret Tryz.prog 103 #[v] w fun v' w'=>Sep w w' [accC v' 9 eS l]:=by
  refine in103 ?_
  have hS:=Sep.start w
  repeat' (first|((with_reducible apply G.a);exact rfl)|refine G.reg fun K hK=>?_|(with_reducible (refine hK _ _ ?_);clear hK K)|(have hk:=hK;clear hk;simp (disch:=first|exact dis|fail) only [push_cast,↓reduceIte,zq1,zq2,zq3,zq4,zq5,fct])|(refine zbsl ?_;intro gb wb hS)|(refine zn1 ?_)|(refine zn2 ?_)|(refine zn3 ?_)|(refine zn4 ?_)|(refine G.cn ?_ ?_<;>intro hc<;>first|(with_reducible exact False.elim hc)|(exfalso;omega)|skip))
  · obtain ⟨p,cap,rfl,h2,h3,h4,h5⟩:=hr
    have:l=[]:=by
      rcases Nat.eq_zero_or_pos l.length with h|h
      · exact List.eq_nil_of_length_eq_zero h
      · obtain ⟨a,ha,_⟩:=h5 h;subst ha;simp [isNil] at hc
    subst this
    (first|refine G.r1 ?_|refine G.r2 ?_|refine G.r3 ?_|refine G.r0 ?_|refine G.d0 ?_);(try simp (disch:=first|exact dis|fail) only [push_cast,↓reduceIte,zq1,zq2,zq3,zq4,zq5,fct])
    exact hS.nil _ _
  · have hS:=Sep.toAcc (E:=eS) ([]:List Str) hS Up.h rfl rfl (by simp) (by simp)
    ((refine zan ?_;intro vb wb hS))
    repeat' (first|((with_reducible apply G.a);exact rfl)|refine G.reg fun K hK=>?_|(with_reducible (refine hK _ _ ?_);clear hK K)|(have hk:=hK;clear hk;simp (disch:=first|exact dis|fail) only [push_cast,↓reduceIte,zq1,zq2,zq3,zq4,zq5,fct])|(refine zbsl ?_;intro gb wb hS)|(refine G.cn ?_ ?_<;>intro hc<;>first|(with_reducible exact False.elim hc)|(exfalso;omega)|skip))
    repeat' (first|((with_reducible apply G.a);exact rfl)|refine G.reg fun K hK=>?_|(with_reducible (refine hK _ _ ?_);clear hK K)|(have hk:=hK;clear hk;simp (disch:=first|exact dis|fail) only [push_cast,↓reduceIte,zq1,zq2,zq3,zq4,zq5,fct])|(refine zbsl ?_;intro gb wb hS)|(refine G.cn ?_ ?_<;>intro hc<;>first|(with_reducible exact False.elim hc)|(exfalso;omega)|skip))
    (first|refine G.r1 ?_|refine G.r2 ?_|refine G.r3 ?_|refine G.r0 ?_|refine G.d0 ?_);(try simp (disch:=first|exact dis|fail) only [push_cast,↓reduceIte,zq1,zq2,zq3,zq4,zq5,fct])
    exact hS
end Go.Proofs.YtllanbmpacgigaaGreatDoor
namespace Go.Proofs.YtllanbmpacgigaaGreatDoor
open Nat renaming reduceAdd→zq1,reduceLeDiff→zq2,reduceEqDiff→zq3,reduceLT→zq4
open Int renaming reduceToNat→zq5
set_option linter.unusedSimpArgs false
set_option linter.unusedVariables false
attribute [local irreducible] SemK UnitK StK AlcK BslK CallK CallV Instr.box Builtin.append_ Instr.makeSlice Instr.makeMap Instr.lookup Instr.mapUpdate Instr.sliceAt convert
open Go.RowKit
theorem same_step {α:Type} [Inhabited α] (a b:List α) (k:Nat) (hl:a.length=b.length) (hk:(k:Int) < a.length) (h:a.take k=b.take k) (he:a.getD k default=b.getD k default):a.take (k+1)=b.take (k+1):=by
  rw [takeD a k hk,takeD b k (by omega),h,he]
theorem same_no {α:Type} [Inhabited α] (a b:List α) (k:Nat) (he:¬ a.getD k default=b.getD k default):a≠b:=fun h=>he (by rw [h])
def c12l1:MC:=(.seq (.reg [qq 14 (.bin .lss (.tmp 13) (.tmp 12))]) (.seq (.cond (.tmp 14) .skip (.exit 0)) (.seq (.blk 1 (.seq (.reg [qm 15 13,qm 5 15]) (.seq (.drg [qm 16 0,qm 17 5,qq 18 (.adr 1 (.tmp 16) (.tmp 17)),qq 19 (.ld none (.tmp 18)),qm 20 1,qm 21 5,qq 22 (.adr 1 (.tmp 20) (.tmp 21)),qq 23 (.ld none (.tmp 22)),qq 24 (.bin .neq (.tmp 19) (.tmp 23))] none) (.cond (.tmp 24) (.seq (.reg [qq 4 (.mv (kb false))]) .ret) .skip)))) (.reg [qq 25 (.bin .add (.tmp 13) (ki 1)),qm 13 25]))))
def c12:MC:=(.seq (.reg [qq 4 (.mv (kb false))]) (.seq (.seq (.reg [qm 6 0,qq 7 (.len (.tmp 6)),qm 8 1,qq 9 (.len (.tmp 8)),qq 10 (.bin .neq (.tmp 7) (.tmp 9))]) (.cond (.tmp 10) (.seq (.reg [qq 4 (.mv (kb false))]) .ret) .skip)) (.seq (.seq (.reg [qm 11 0,qq 12 (.len (.tmp 11)),qq 13 (.mv (ki 0))]) (.blk 0 (.loop c12l1))) (.seq (.reg [qq 4 (.mv (kb true))]) .ret))))
theorem k12:conv Tryz.prog 26 (Tryz.f12.body.getD .skip)=c12:=by kernel_rfl
theorem in12 {a0 a1:Value} {w:World} {R:Value→World→Prop} (h:G Tryz.prog Tryz.f12 26 [.c c12] R (frL 0 [a0,a1]) w):Ret Tryz.prog 12 #[a0,a1] w R:=G.enter (args:=[a0,a1]) Tryz.func12 (c:=Tryz.f12.body.getD .skip) (by kernel_rfl) (by kernel_rfl) (by simp) k12 h
theorem same05_spec {va vb:Value} {a b:List Str} {w:World} (ha:Rd w eS va a) (hb:Rd w eS vb b):Pu Tryz.prog 12 #[va,vb] w (.bool (decide (a=b))):=by
  refine in12 ?_
  have hS:=Sep.start w
  have hbd:=ha.bd
  repeat' (first|((with_reducible apply G.a);exact rfl)|refine G.reg fun K hK=>?_|(with_reducible (refine hK _ _ ?_);clear hK K)|(with_reducible (refine hK _ ?_);clear hK K;intro wd hxd;have hS:=Sep.xx hxd)|(have hk:=hK;clear hk;simp (disch:=first|exact dis|fail) only [push_cast,↓reduceIte,zq1,zq2,zq3,zq4,zq5,fct])|refine G.drg mixed fun K hK=>?_|(refine G.cn ?_ ?_<;>intro hc<;>first|(with_reducible exact False.elim hc)|(exfalso;omega)|skip))
  · (first|refine G.r1 ?_|refine G.r2 ?_|refine G.r3 ?_|refine G.r0 ?_|refine G.d0 ?_);(try simp (disch:=first|exact dis|fail) only [push_cast,↓reduceIte,zq1,zq2,zq3,zq4,zq5,fct])
    (refine ⟨?_,Sep.xt (by assumption)⟩)
    rw [decide_eq_false (fun h=>hc (by rw [h]))]
  · refine G.loop (fun r w'=>∃ k:Nat,k≤a.length∧r 13=I k∧r 12=I a.length∧r 0=va∧r 1=vb∧a.take k=b.take k∧Sep w w' []) (fun r _=>a.length - toN (r 13)) ?_ ?_
    · refine ⟨0,?_⟩
      ((repeat' apply And.intro)<;>first|exact dj|(simp only [push_cast,↓reduceIte,zq1,zq2,zq3,zq4,zq5]<;>omega)|skip)
    · rintro u wl ⟨k,hk,h13,h12,h0,h1,e,hS⟩ ih
      (have fct:=(And.intro @h13 (And.intro @h12 (And.intro @h0 @h1)));repeat' (first|((with_reducible apply G.a);exact rfl)|refine G.reg fun K hK=>?_|(with_reducible (refine hK _ _ ?_);clear hK K)|(with_reducible (refine hK _ ?_);clear hK K;intro wd hxd;have hS:=Sep.xx hxd)|(have hk:=hK;clear hk;simp (disch:=first|exact dis|fail) only [push_cast,↓reduceIte,zq1,zq2,zq3,zq4,zq5,fct])|refine G.drg mixed fun K hK=>?_|(refine G.cn ?_ ?_<;>intro hc<;>first|(with_reducible exact False.elim hc)|(exfalso;omega)|skip)))<;>(try clear fct)
      · (have fct:=(And.intro @h13 (And.intro @h12 (And.intro @h0 @h1)));(first|refine G.r1 ?_|refine G.r2 ?_|refine G.r3 ?_|refine G.r0 ?_|refine G.d0 ?_);(try simp (disch:=first|exact dis|fail) only [push_cast,↓reduceIte,zq1,zq2,zq3,zq4,zq5,fct]);(try clear fct))
        (refine ⟨?_,Sep.xt (by assumption)⟩)
        rw [decide_eq_false (same_no a b k hc)]
      · (refine ih _ _ ⟨k+1,?_⟩ ?_;rotate_left;(focus ((simp only [push_cast,↓reduceIte,zq1,zq2,zq3,zq4,zq5,toN_i,h13,h12,h0,h1]<;>omega)));((repeat' apply And.intro)<;>first|exact dj|(simp only [push_cast,↓reduceIte,zq1,zq2,zq3,zq4,zq5,h13,h12,h0,h1]<;>omega)|skip))
        exact same_step a b k (by omega) (by assumption) e hc
      · (have fct:=(And.intro @h13 (And.intro @h12 (And.intro @h0 @h1)));(first|refine G.r1 ?_|refine G.r2 ?_|refine G.r3 ?_|refine G.r0 ?_|refine G.d0 ?_);(try simp (disch:=first|exact dis|fail) only [push_cast,↓reduceIte,zq1,zq2,zq3,zq4,zq5,fct]);(try clear fct))
        (refine ⟨?_,Sep.xt (by assumption)⟩)
        rw [List.take_of_length_le (by omega),List.take_of_length_le (by omega)] at e
        rw [decide_eq_true e]
def c37l1:MC:=(.seq (.reg [qq 34 (.bin .lss (.tmp 33) (.tmp 32))]) (.seq (.cond (.tmp 34) .skip (.exit 2)) (.seq (.blk 3 (.seq (.reg [qq 35 (.adr 1 (.tmp 31) (.tmp 33)),qq 36 (.ld none (.tmp 35)),qm 12 36]) (.seq (.seq (.reg [qm 37 12,qq 38 (.lenS (.tmp 37)),qm 39 3,qq 40 (.bin .gtr (.tmp 38) (.tmp 39))]) (.cond (.tmp 40) (.seq (.reg [qq 8 (.mv (kb true))]) .ret) .skip)) (.reg [qm 41 3,qm 42 12,qq 43 (.lenS (.tmp 42)),qq 44 (.bin .sub (.tmp 41) (.tmp 43)),qm 3 44])))) (.reg [qq 45 (.bin .add (.tmp 33) (ki 1)),qm 33 45]))))
def c37l2:MC:=(.seq (.reg [qq 20 (.bin .lss (.tmp 19) (.tmp 18))]) (.seq (.cond (.tmp 20) .skip (.exit 0)) (.seq (.blk 1 (.seq (.reg [qq 21 (.adr 1 (.tmp 17) (.tmp 19)),qq 22 (.ld none (.tmp 21)),qm 10 22]) (.seq (.seq (.reg [qm 23 10,qq 24 (.len (.tmp 23)),qm 25 2,qq 26 (.bin .gtr (.tmp 24) (.tmp 25))]) (.cond (.tmp 26) (.seq (.reg [qq 8 (.mv (kb true))]) .ret) .skip)) (.seq (.reg [qm 27 2,qm 28 10,qq 29 (.len (.tmp 28)),qq 30 (.bin .sub (.tmp 27) (.tmp 29)),qm 2 30]) (.seq (.reg [qm 31 10,qq 32 (.len (.tmp 31)),qq 33 (.mv (ki 0))]) (.blk 2 (.loop c37l1))))))) (.reg [qq 46 (.bin .add (.tmp 19) (ki 1)),qm 19 46]))))
def c37:MC:=(.seq (.reg [qq 8 (.mv (kb false))]) (.seq (.seq (.reg [qm 13 0,qq 14 (.len (.tmp 13)),qm 15 1,qq 16 (.bin .gtr (.tmp 14) (.tmp 15))]) (.cond (.tmp 16) (.seq (.reg [qq 8 (.mv (kb true))]) .ret) .skip)) (.seq (.seq (.reg [qm 17 0,qq 18 (.len (.tmp 17)),qq 19 (.mv (ki 0))]) (.blk 0 (.loop c37l2))) (.seq (.reg [qq 8 (.mv (kb false))]) .ret))))
end Go.Proofs.YtllanbmpacgigaaGreatDoor
namespace Go.Proofs.YtllanbmpacgigaaGreatDoor
open Nat renaming reduceAdd→zq1,reduceLeDiff→zq2,reduceEqDiff→zq3,reduceLT→zq4
open Int renaming reduceToNat→zq5
set_option linter.unusedSimpArgs false
set_option linter.unusedVariables false
attribute [local irreducible] SemK UnitK StK AlcK BslK CallK CallV Instr.box Builtin.append_ Instr.makeSlice Instr.makeMap Instr.lookup Instr.mapUpdate Instr.sliceAt convert
open Go.RowKit
end Go.Proofs.YtllanbmpacgigaaGreatDoor
namespace Go.Proofs.YtllanbmpacgigaaGreatDoor
open Nat renaming reduceAdd→zq1,reduceLeDiff→zq2,reduceEqDiff→zq3,reduceLT→zq4
open Int renaming reduceToNat→zq5
set_option linter.unusedSimpArgs false
set_option linter.unusedVariables false
attribute [local irreducible] SemK UnitK StK AlcK BslK CallK CallV Instr.box Builtin.append_ Instr.makeSlice Instr.makeMap Instr.lookup Instr.mapUpdate Instr.sliceAt convert
open Go.RowKit
theorem sqM_app (a:Str) (b:UInt8):sqM (a++[b])=sqM a++spB b:=by simp [sqM]
theorem spB_len (b:UInt8):(spB b).length≤2:=by unfold spB;split<;>(try split)<;>(try split)<;>simp
theorem sqM_len (s:Str):(sqM s).length≤2 * s.length:=by
  induction s with
  | nil=>simp [sqM]
  | cons b r ih=>rw [sqM_cons,List.length_append,List.length_cons];have:=spB_len b;omega
theorem takeB (l:Str) (k:Nat) (h:(k:Int) < l.length):l.take (k+1)=l.take k++[l.getD k 0]:=takeD l k h
theorem u8_of {b:UInt8} (c:UInt8) (h:(b.toNat:Int)=c.toNat):b=c:=UInt8.toNat_inj.1 (by omega)
end Go.Proofs.YtllanbmpacgigaaGreatDoor
namespace Go.Proofs.YtllanbmpacgigaaGreatDoor
open Nat renaming reduceAdd→zq1,reduceLeDiff→zq2,reduceEqDiff→zq3,reduceLT→zq4
open Int renaming reduceToNat→zq5
set_option linter.unusedSimpArgs false
set_option linter.unusedVariables false
attribute [local irreducible] SemK UnitK StK AlcK BslK CallK CallV Instr.box Builtin.append_ Instr.makeSlice Instr.makeMap Instr.lookup Instr.mapUpdate Instr.sliceAt convert
open Go.RowKit
theorem dropB (l:Str) (k:Nat) (h:(k:Int) < l.length):l.drop k=l.getD k 0 :: l.drop (k+1):=dropD l k h
theorem u8_ne {b:UInt8} {c:UInt8} {n:Int} (hn:(c.toNat:Int)=n) (h:¬ (b.toNat:Int)=n):¬ b=c:=fun e=>h (by rw [e];exact hn)
theorem u8_eq {b:UInt8} {c:UInt8} {n:Int} (hn:(c.toNat:Int)=n) (h:(b.toNat:Int)=n):b=c:=UInt8.toNat_inj.1 (by omega)
theorem app_comp {α:Type} (a:List α) (b:α):((a++·) ∘ (b :: ·))=((a++[b])++·):=by funext x;simp
theorem bwb_c {g:Nat} {xs:Str} {L R:List Chk} {w w0:World} (n:Int) (c:UInt8) (hn:(c.toNat:Int)=n) (hS:Sep w0 w L) (he:Ex (bldC g 67 5 xs) L R) (hl:xs.length≤1000000000000) :
    Ret Tryz.prog 35 #[.pointer (some ⟨g,0,none⟩),.int .u8 n] w fun res w'=>res=.nilIface∧Sep w0 w' (bldC g 67 5 (xs++[c]) :: R):=by
  subst hn;exact bwb_spec c hS he hl
end Go.Proofs.YtllanbmpacgigaaGreatDoor
namespace Go.Proofs.YtllanbmpacgigaaGreatDoor
open Nat renaming reduceAdd→zq1,reduceLeDiff→zq2,reduceEqDiff→zq3,reduceLT→zq4
open Int renaming reduceToNat→zq5
set_option linter.unusedSimpArgs false
set_option linter.unusedVariables false
attribute [local irreducible] SemK UnitK StK AlcK BslK CallK CallV Instr.box Builtin.append_ Instr.makeSlice Instr.makeMap Instr.lookup Instr.mapUpdate Instr.sliceAt convert
open Go.RowKit
def unL:Str→Option Str
  | []=>some []
  | b :: r=>if b=92 then (match r with
      | []=>none
      | c :: r'=>if c=92 then (unL r').map (92 :: ·) else if c=110 then (unL r').map (10 :: ·) else if c=114 then (unL r').map (13 :: ·) else none) else (unL r).map (b :: ·)
theorem unL_o {b:UInt8} (r:Str) (h1:¬ b=92):unL (b :: r)=(unL r).map (b :: ·):=by
  cases r<;>simp [unL,h1]
theorem unL_pair (c:UInt8) (r:Str):unL (92 :: c :: r)=if c=92 then (unL r).map (92 :: ·) else if c=110 then (unL r).map (10 :: ·) else if c=114 then (unL r).map (13 :: ·) else none:=by
  simp [unL]
theorem unL_one:unL [92]=none:=by simp [unL]
theorem unL_sp (s:Str):unL (sqM s)=some s:=by
  induction s with
  | nil=>rfl
  | cons b r ih =>
    rw [sqM_cons]
    by_cases h1:b=92
    · subst h1;rw [spB_92];show unL (92 :: 92 :: sqM r)=_;rw [unL_pair,if_pos rfl,ih];rfl
    by_cases h2:b=10
    · subst h2;rw [spB_10];show unL (92 :: 110 :: sqM r)=_;rw [unL_pair,if_neg (by decide),if_pos rfl,ih];rfl
    by_cases h3:b=13
    · subst h3;rw [spB_13];show unL (92 :: 114 :: sqM r)=_;rw [unL_pair,if_neg (by decide),if_neg (by decide),if_pos rfl,ih];rfl
    rw [spB_o h1 h2 h3];show unL (b :: sqM r)=_;rw [unL_o _ h1,ih];rfl
theorem sqM_line (s:Str):∀ c∈sqM s,¬ (c=10∨c=13):=by
  induction s with
  | nil=>simp [sqM]
  | cons b r ih =>
    rw [sqM_cons]
    intro c hc
    rcases List.mem_append.1 hc with hc|hc
    · by_cases h1:b=92
      · subst h1;rw [spB_92] at hc;simp at hc;subst hc;decide
      by_cases h2:b=10
      · subst h2;rw [spB_10] at hc;simp at hc;rcases hc with rfl|rfl<;>decide
      by_cases h3:b=13
      · subst h3;rw [spB_13] at hc;simp at hc;rcases hc with rfl|rfl<;>decide
      rw [spB_o h1 h2 h3] at hc;simp at hc;subst hc;simp [h2,h3]
    · exact ih c hc
def c15l1:MC:=(.seq (.seq (.reg [qm 5 4,qm 6 0,qq 7 (.lenS (.tmp 6)),qq 8 (.bin .lss (.tmp 5) (.tmp 7))]) (.cond (.tmp 8) .skip (.exit 0))) (.seq (.blk 1 (.seq (.reg [qm 11 0,qm 12 4,qq 13 (.idxS (.tmp 11) (.tmp 12))]) (.blk 2 (.seq (.reg [qq 19 (.bin .eql (.tmp 13) (.const (.int .u8 92))),qm 18 19]) (.cond (.tmp 18) (.reg [qq 20 (.call 34 [(.tmp 3),(.const (S [92,92]))])]) (.seq (.reg [qq 22 (.bin .eql (.tmp 13) (.const (.int .u8 10))),qm 21 22]) (.cond (.tmp 21) (.reg [qq 23 (.call 34 [(.tmp 3),(.const (S [92,110]))])]) (.seq (.reg [qq 25 (.bin .eql (.tmp 13) (.const (.int .u8 13))),qm 24 25]) (.cond (.tmp 24) (.reg [qq 26 (.call 34 [(.tmp 3),(.const (S [92,114]))])]) (.reg [qm 14 0,qm 15 4,qq 16 (.idxS (.tmp 14) (.tmp 15)),qq 17 (.call 35 [(.tmp 3),(.tmp 16)])])))))))))) (.reg [qm 9 4,qq 10 (.bin .add (.tmp 9) (ki 1)),qm 4 10])))
def c15:MC:=(.seq (.reg [qq 2 (.mv (.const (S [])))]) (.seq (.reg [qq 3 (.alc 67 [(.pointer none),(.slice none 0 0)])]) (.seq (.seq (.reg [qq 4 (.mv (ki 0))]) (.blk 0 (.loop c15l1))) (.seq (.reg [qq 27 (.call 36 [(.tmp 3)]),qm 2 27]) .ret))))
theorem k15:conv Tryz.prog 28 (Tryz.f15.body.getD .skip)=c15:=by kernel_rfl
theorem in15 {a0:Value} {w:World} {R:Value→World→Prop} (h:G Tryz.prog Tryz.f15 28 [.c c15] R (frL 0 [a0]) w):Ret Tryz.prog 15 #[a0] w R:=G.enter (args:=[a0]) Tryz.func15 (c:=Tryz.f15.body.getD .skip) (by kernel_rfl) (by kernel_rfl) (by simp) k15 h
theorem spellL_spec (s:Str) (w:World) (hl:s.length≤100000000000):Pu Tryz.prog 15 #[S s] w (S (sqM s)):=by
  refine in15 ?_
  have hS:=Sep.start w
  repeat' (first|((with_reducible apply G.a);exact rfl)|refine G.reg fun K hK=>?_|(with_reducible (refine hK _ _ ?_);clear hK K)|(have hk:=hK;clear hk;simp (disch:=first|exact dis|fail) only [push_cast,↓reduceIte,zq1,zq2,zq3,zq4,zq5,fct])|(refine zalc ?_;intro gb wb hS)|(refine G.cn ?_ ?_<;>intro hc<;>first|(with_reducible exact False.elim hc)|(exfalso;omega)|skip))
  have hS:=hS.newB 5
  refine G.loop (fun r w'=>∃ k:Nat,k≤s.length∧r 4=I k∧r 3=.pointer (some ⟨gb,0,none⟩)∧r 0=S s∧Sep w w' [bldC gb 67 5 (sqM (s.take k))]) (fun r _=>s.length - toN (r 4)) ?_ ?_
  · refine ⟨0,?_⟩
    ((repeat' apply And.intro)<;>first|exact dj|(simp only [push_cast,↓reduceIte,zq1,zq2,zq3,zq4,zq5]<;>omega)|skip)
  · clear hS
    rintro u wl ⟨k,hk,h4,h3,h0,hS⟩ ih
    have hle:=sqM_len (s.take k)
    have hlt2:(s.take k).length≤k:=by rw [List.length_take];omega
    by_cases hlt:(k:Int) < s.length
    · have htk:=takeB s k hlt
      (have fct:=(And.intro @h4 (And.intro @h3 @h0));repeat' (first|((with_reducible apply G.a);exact rfl)|refine G.reg fun K hK=>?_|(with_reducible (refine hK _ _ ?_);clear hK K)|(have hk:=hK;clear hk;simp (disch:=first|exact dis|fail) only [push_cast,↓reduceIte,zq1,zq2,zq3,zq4,zq5,fct])|(refine zalc ?_;intro gb wb hS)|(refine zco 34 (bws_spec hS .h (by omega) (by simp)) ?_;rintro vb wb ⟨rfl,hS⟩)|(refine zco 35 (bwb_spec _ hS .h (by omega)) ?_;rintro vb wb ⟨rfl,hS⟩)|(refine G.cn ?_ ?_<;>intro hc<;>first|(with_reducible exact False.elim hc)|(exfalso;omega)|skip)))<;>(try clear fct)
      all_goals
        have e:sqM (s.take (k+1))=sqM (s.take k)++spB (s.getD k 0):=by rw [htk,sqM_app]
        have n92:s.getD k 0=92→((s.getD k 0).toNat:Int)=92:=fun h=>by rw [h];rfl
        have n10:s.getD k 0=10→((s.getD k 0).toNat:Int)=10:=fun h=>by rw [h];rfl
        have n13:s.getD k 0=13→((s.getD k 0).toNat:Int)=13:=fun h=>by rw [h];rfl
        first
          | rw [u8_of 92 (show ((s.getD k 0).toNat:Int)=92 by assumption),spB_92] at e
          | rw [u8_of 10 (show ((s.getD k 0).toNat:Int)=10 by assumption),spB_10] at e
          | rw [u8_of 13 (show ((s.getD k 0).toNat:Int)=13 by assumption),spB_13] at e
          | rw [spB_o (fun h=>absurd (n92 h) (by assumption)) (fun h=>absurd (n10 h) (by assumption)) (fun h=>absurd (n13 h) (by assumption))] at e
        rw [←e] at hS
        (refine ih _ _ ⟨k+1,?_⟩ ?_;rotate_left;(focus ((simp only [push_cast,↓reduceIte,zq1,zq2,zq3,zq4,zq5,toN_i,h4,h3,h0]<;>omega)));((repeat' apply And.intro)<;>first|exact dj|(simp only [push_cast,↓reduceIte,zq1,zq2,zq3,zq4,zq5,h4,h3,h0]<;>omega)|skip))
    · (have fct:=(And.intro @h4 (And.intro @h3 @h0));repeat' (first|((with_reducible apply G.a);exact rfl)|refine G.reg fun K hK=>?_|(with_reducible (refine hK _ _ ?_);clear hK K)|(have hk:=hK;clear hk;simp (disch:=first|exact dis|fail) only [push_cast,↓reduceIte,zq1,zq2,zq3,zq4,zq5,fct])|(refine zalc ?_;intro gb wb hS)|(refine zco 36 (bst_spec hS .h) ?_;rintro vb wb ⟨rfl,hS⟩)|(refine G.cn ?_ ?_<;>intro hc<;>first|(with_reducible exact False.elim hc)|(exfalso;omega)|skip)))<;>(try clear fct)
      (have fct:=(And.intro @h4 (And.intro @h3 @h0));(first|refine G.r1 ?_|refine G.r2 ?_|refine G.r3 ?_|refine G.r0 ?_|refine G.d0 ?_);(try simp (disch:=first|exact dis|fail) only [push_cast,↓reduceIte,zq1,zq2,zq3,zq4,zq5,fct]);(try clear fct))
      (refine ⟨?_,Sep.xt (by assumption)⟩)
      rw [List.take_of_length_le (by omega)]
end Go.Proofs.YtllanbmpacgigaaGreatDoor
namespace Go.Proofs.YtllanbmpacgigaaGreatDoor
open Nat renaming reduceAdd→zq1,reduceLeDiff→zq2,reduceEqDiff→zq3,reduceLT→zq4
open Int renaming reduceToNat→zq5
set_option linter.unusedSimpArgs false
set_option linter.unusedVariables false
attribute [local irreducible] SemK UnitK StK AlcK BslK CallK CallV Instr.box Builtin.append_ Instr.makeSlice Instr.makeMap Instr.lookup Instr.mapUpdate Instr.sliceAt convert
open Go.RowKit
def c16l1:MC:=(.seq (.seq (.reg [qm 6 5,qm 7 0,qq 8 (.lenS (.tmp 7)),qq 9 (.bin .lss (.tmp 6) (.tmp 8))]) (.cond (.tmp 9) .skip (.exit 0))) (.seq (.blk 1 (.seq (.seq (.reg [qm 12 0,qm 13 5,qq 14 (.idxS (.tmp 12) (.tmp 13)),qq 15 (.bin .neq (.tmp 14) (.const (.int .u8 92)))]) (.cond (.tmp 15) (.seq (.reg [qm 16 0,qm 17 5,qq 18 (.idxS (.tmp 16) (.tmp 17)),qq 19 (.call 35 [(.tmp 4),(.tmp 18)])]) (.exit 1)) .skip)) (.seq (.reg [qm 20 5,qq 21 (.bin .add (.tmp 20) (ki 1)),qm 5 21]) (.seq (.seq (.reg [qm 22 5,qm 23 0,qq 24 (.lenS (.tmp 23)),qq 25 (.bin .eql (.tmp 22) (.tmp 24))]) (.cond (.tmp 25) (.seq (.reg [qq 2 (.mv (.const (S []))),qq 3 (.mv (kb false))]) .ret) .skip)) (.seq (.reg [qm 26 0,qm 27 5,qq 28 (.idxS (.tmp 26) (.tmp 27))]) (.blk 2 (.seq (.reg [qq 30 (.bin .eql (.tmp 28) (.const (.int .u8 92))),qm 29 30]) (.cond (.tmp 29) (.reg [qq 31 (.call 35 [(.tmp 4),(.const (.int .u8 92))])]) (.seq (.reg [qq 33 (.bin .eql (.tmp 28) (.const (.int .u8 110))),qm 32 33]) (.cond (.tmp 32) (.reg [qq 34 (.call 35 [(.tmp 4),(.const (.int .u8 10))])]) (.seq (.reg [qq 36 (.bin .eql (.tmp 28) (.const (.int .u8 114))),qm 35 36]) (.cond (.tmp 35) (.reg [qq 37 (.call 35 [(.tmp 4),(.const (.int .u8 13))])]) (.seq (.reg [qq 2 (.mv (.const (S []))),qq 3 (.mv (kb false))]) .ret))))))))))))) (.reg [qm 10 5,qq 11 (.bin .add (.tmp 10) (ki 1)),qm 5 11])))
def c16:MC:=(.seq (.reg [qq 2 (.mv (.const (S []))),qq 3 (.mv (kb false))]) (.seq (.reg [qq 4 (.alc 67 [(.pointer none),(.slice none 0 0)])]) (.seq (.seq (.reg [qq 5 (.mv (ki 0))]) (.blk 0 (.loop c16l1))) (.seq (.reg [qq 38 (.call 36 [(.tmp 4)]),qm 2 38,qq 3 (.mv (kb true))]) .ret))))
theorem k16:conv Tryz.prog 39 (Tryz.f16.body.getD .skip)=c16:=by kernel_rfl
theorem in16 {a0:Value} {w:World} {R:Value→World→Prop} (h:G Tryz.prog Tryz.f16 39 [.c c16] R (frL 0 [a0]) w):Ret Tryz.prog 16 #[a0] w R:=G.enter (args:=[a0]) Tryz.func16 (c:=Tryz.f16.body.getD .skip) (by kernel_rfl) (by kernel_rfl) (by simp) k16 h
theorem unspellL_spec (s:Str) (w:World) (hl:s.length≤100000000000):Pu Tryz.prog 16 #[S s] w (.tuple #[S ((unL s).getD []),.bool (unL s).isSome]):=by
  refine in16 ?_
  have hS:=Sep.start w
  repeat' (first|((with_reducible apply G.a);exact rfl)|refine G.reg fun K hK=>?_|(with_reducible (refine hK _ _ ?_);clear hK K)|(have hk:=hK;clear hk;simp (disch:=first|exact dis|fail) only [push_cast,↓reduceIte,zq1,zq2,zq3,zq4,zq5,fct])|(refine zalc ?_;intro gb wb hS)|(refine G.cn ?_ ?_<;>intro hc<;>first|(with_reducible exact False.elim hc)|(exfalso;omega)|skip))
  have hS:=hS.newB 5
  refine G.loop (fun r w'=>∃ (k:Nat) (out:Str),k≤s.length∧out.length≤k∧r 5=I k∧r 4=.pointer (some ⟨gb,0,none⟩)∧r 0=S s∧unL s=(unL (s.drop k)).map (out++·)∧Sep w w' [bldC gb 67 5 out]) (fun r _=>s.length - toN (r 5)) ?_ ?_
  · refine ⟨0,[],?_⟩
    ((repeat' apply And.intro)<;>first|exact dj|(simp only [push_cast,↓reduceIte,zq1,zq2,zq3,zq4,zq5]<;>omega)|skip)
    all_goals simp
  · clear hS
    rintro u wl ⟨k,out,hk,ho,h5,h4,h0,e,hS⟩ ih
    by_cases hlt:(k:Int) < s.length
    · rw [dropB s k hlt] at e
      have hd2:=dropB s (k+1)
      have ht:((k:Int)+1).toNat=k+1:=by omega
      (have fct:=(And.intro @h5 (And.intro @h4 (And.intro @h0 @ht)));repeat' (first|((with_reducible apply G.a);exact rfl)|refine G.reg fun K hK=>?_|(with_reducible (refine hK _ _ ?_);clear hK K)|(have hk:=hK;clear hk;simp (disch:=first|exact dis|fail) only [push_cast,↓reduceIte,zq1,zq2,zq3,zq4,zq5,fct])|(refine zalc ?_;intro gb wb hS)|((with_reducible (show CallK _ 35 [_,Value.int _ 92] _ _ _ _));refine zco 35 (bwb_c 92 92 rfl hS .h (by omega)) ?_;rintro vb wb ⟨rfl,hS⟩)|((with_reducible (show CallK _ 35 [_,Value.int _ 10] _ _ _ _));refine zco 35 (bwb_c 10 10 rfl hS .h (by omega)) ?_;rintro vb wb ⟨rfl,hS⟩)|((with_reducible (show CallK _ 35 [_,Value.int _ 13] _ _ _ _));refine zco 35 (bwb_c 13 13 rfl hS .h (by omega)) ?_;rintro vb wb ⟨rfl,hS⟩)|((with_reducible (show CallK _ 35 [_,Value.int _ (Nat.cast _)] _ _ _ _));refine zco 35 (bwb_spec (s.getD k 0) hS .h (by omega)) ?_;rintro vb wb ⟨rfl,hS⟩)|(refine G.cn ?_ ?_<;>intro hc<;>first|(with_reducible exact False.elim hc)|(exfalso;omega)|skip)))<;>(try clear fct)
      all_goals first
        | (rw [unL_o _ (u8_ne (n:=92) rfl (by assumption)),Option.map_map,app_comp] at e;(refine ih _ _ ⟨k+1,out++[s.getD k 0],?_⟩ ?_;rotate_left;(focus ((simp only [push_cast,↓reduceIte,zq1,zq2,zq3,zq4,zq5,toN_i,h5,h4,h0]<;>omega)));((repeat' apply And.intro)<;>first|exact dj|(simp only [push_cast,↓reduceIte,zq1,zq2,zq3,zq4,zq5,h5,h4,h0]<;>omega)|skip));done)
        | (rw [u8_eq (c:=92) (n:=92) rfl (show ((s.getD k 0).toNat:Int)=92 by assumption),List.drop_eq_nil_of_le (show s.length≤k+1 by omega),unL_one] at e;(have fct:=(And.intro @h5 (And.intro @h4 (And.intro @h0 @e)));(first|refine G.r1 ?_|refine G.r2 ?_|refine G.r3 ?_|refine G.r0 ?_|refine G.d0 ?_);(try simp (disch:=first|exact dis|fail) only [push_cast,↓reduceIte,zq1,zq2,zq3,zq4,zq5,fct]);(try clear fct));exact ⟨rfl,Sep.xt (by assumption)⟩)
        | skip
      all_goals rw [u8_eq (c:=92) (n:=92) rfl (show ((s.getD k 0).toNat:Int)=92 by assumption),hd2 (by push_cast;omega),unL_pair] at e
      · rw [if_pos (u8_eq (n:=92) rfl (by assumption)),Option.map_map,app_comp] at e
        (refine ih _ _ ⟨k+2,out++[92],?_⟩ ?_;rotate_left;(focus ((simp only [push_cast,↓reduceIte,zq1,zq2,zq3,zq4,zq5,toN_i,h5,h4,h0,ht]<;>omega)));((repeat' apply And.intro)<;>first|exact dj|(simp only [push_cast,↓reduceIte,zq1,zq2,zq3,zq4,zq5,h5,h4,h0,ht]<;>omega)|skip))
      · rw [if_neg (u8_ne (n:=92) rfl (by assumption)),if_pos (u8_eq (n:=110) rfl (by assumption)),Option.map_map,app_comp] at e
        (refine ih _ _ ⟨k+2,out++[10],?_⟩ ?_;rotate_left;(focus ((simp only [push_cast,↓reduceIte,zq1,zq2,zq3,zq4,zq5,toN_i,h5,h4,h0,ht]<;>omega)));((repeat' apply And.intro)<;>first|exact dj|(simp only [push_cast,↓reduceIte,zq1,zq2,zq3,zq4,zq5,h5,h4,h0,ht]<;>omega)|skip))
      · rw [if_neg (u8_ne (n:=92) rfl (by assumption)),if_neg (u8_ne (n:=110) rfl (by assumption)),if_pos (u8_eq (n:=114) rfl (by assumption)),Option.map_map,app_comp] at e
        (refine ih _ _ ⟨k+2,out++[13],?_⟩ ?_;rotate_left;(focus ((simp only [push_cast,↓reduceIte,zq1,zq2,zq3,zq4,zq5,toN_i,h5,h4,h0,ht]<;>omega)));((repeat' apply And.intro)<;>first|exact dj|(simp only [push_cast,↓reduceIte,zq1,zq2,zq3,zq4,zq5,h5,h4,h0,ht]<;>omega)|skip))
      · rw [if_neg (u8_ne (n:=92) rfl (by assumption)),if_neg (u8_ne (n:=110) rfl (by assumption)),if_neg (u8_ne (n:=114) rfl (by assumption))] at e
        (have fct:=(And.intro @h5 (And.intro @h4 (And.intro @h0 @e)));(first|refine G.r1 ?_|refine G.r2 ?_|refine G.r3 ?_|refine G.r0 ?_|refine G.d0 ?_);(try simp (disch:=first|exact dis|fail) only [push_cast,↓reduceIte,zq1,zq2,zq3,zq4,zq5,fct]);(try clear fct))
        exact ⟨rfl,Sep.xt (by assumption)⟩
    · (have fct:=(And.intro @h5 (And.intro @h4 @h0));repeat' (first|((with_reducible apply G.a);exact rfl)|refine G.reg fun K hK=>?_|(with_reducible (refine hK _ _ ?_);clear hK K)|(have hk:=hK;clear hk;simp (disch:=first|exact dis|fail) only [push_cast,↓reduceIte,zq1,zq2,zq3,zq4,zq5,fct])|(refine zalc ?_;intro gb wb hS)|(refine zco 36 (bst_spec hS .h) ?_;rintro vb wb ⟨rfl,hS⟩)|(refine G.cn ?_ ?_<;>intro hc<;>first|(with_reducible exact False.elim hc)|(exfalso;omega)|skip)))<;>(try clear fct)
      rw [List.drop_eq_nil_of_le (by omega)] at e
      have e2:unL s=some out:=by rw [e];simp [unL]
      (have fct:=(And.intro @h5 (And.intro @h4 (And.intro @h0 @e2)));(first|refine G.r1 ?_|refine G.r2 ?_|refine G.r3 ?_|refine G.r0 ?_|refine G.d0 ?_);(try simp (disch:=first|exact dis|fail) only [push_cast,↓reduceIte,zq1,zq2,zq3,zq4,zq5,fct]);(try clear fct))
      exact ⟨rfl,Sep.xt (by assumption)⟩
end Go.Proofs.YtllanbmpacgigaaGreatDoor
namespace Go.Proofs.YtllanbmpacgigaaGreatDoor
open Nat renaming reduceAdd→zq1,reduceLeDiff→zq2,reduceEqDiff→zq3,reduceLT→zq4
open Int renaming reduceToNat→zq5
set_option linter.unusedSimpArgs false
set_option linter.unusedVariables false
open Go.RowKit
end Go.Proofs.YtllanbmpacgigaaGreatDoor
namespace Go.Proofs.YtllanbmpacgigaaGreatDoor
open Nat renaming reduceAdd→zq1,reduceLeDiff→zq2,reduceEqDiff→zq3,reduceLT→zq4
open Int renaming reduceToNat→zq5
set_option linter.unusedSimpArgs false
set_option linter.unusedVariables false
attribute [local irreducible] SemK UnitK StK AlcK BslK CallK CallV Instr.box Builtin.append_ Instr.makeSlice Instr.makeMap Instr.lookup Instr.mapUpdate Instr.sliceAt convert
open Go.RowKit
def c18l1:MC:=(.seq (.seq (.reg [qm 5 4,qm 6 0,qq 7 (.lenS (.tmp 6)),qq 8 (.bin .lss (.tmp 5) (.tmp 7))]) (.cond (.tmp 8) .skip (.exit 0))) (.seq (.blk 1 (.seq (.reg [qm 11 0,qm 12 4,qq 13 (.idxS (.tmp 11) (.tmp 12))]) (.blk 2 (.seq (.reg [qq 22 (.bin .eql (.tmp 13) (.const (.int .u8 92))),qm 21 22]) (.cond (.tmp 21) (.reg [qm 23 3,qq 24 (.bsl 5 [(.int .u8 0),(.int .u8 0)] 2 [⟨0,⟨1,(.const (.int .u8 92))⟩⟩,⟨1,⟨1,(.const (.int .u8 92))⟩⟩]),qq 25 (.b2s (.tmp 24)),qq 26 (.bin .add (.tmp 23) (.tmp 25)),qm 3 26]) (.seq (.reg [qq 28 (.bin .eql (.tmp 13) (.const (.int .u8 10))),qm 27 28]) (.cond (.tmp 27) (.reg [qm 29 3,qq 30 (.bsl 5 [(.int .u8 0),(.int .u8 0)] 2 [⟨0,⟨1,(.const (.int .u8 92))⟩⟩,⟨1,⟨1,(.const (.int .u8 110))⟩⟩]),qq 31 (.b2s (.tmp 30)),qq 32 (.bin .add (.tmp 29) (.tmp 31)),qm 3 32]) (.seq (.reg [qq 34 (.bin .eql (.tmp 13) (.const (.int .u8 13))),qm 33 34]) (.cond (.tmp 33) (.reg [qm 35 3,qq 36 (.bsl 5 [(.int .u8 0),(.int .u8 0)] 2 [⟨0,⟨1,(.const (.int .u8 92))⟩⟩,⟨1,⟨1,(.const (.int .u8 114))⟩⟩]),qq 37 (.b2s (.tmp 36)),qq 38 (.bin .add (.tmp 35) (.tmp 37)),qm 3 38]) (.reg [qm 14 3,qm 15 0,qm 16 4,qm 17 4,qq 18 (.bin .add (.tmp 17) (ki 1)),qq 19 (.slS (.tmp 15) (.some (.tmp 16)) (.some (.tmp 18))),qq 20 (.bin .add (.tmp 14) (.tmp 19)),qm 3 20])))))))))) (.reg [qm 9 4,qq 10 (.bin .add (.tmp 9) (ki 1)),qm 4 10])))
def c18:MC:=(.seq (.reg [qq 2 (.mv (.const (S [])))]) (.seq (.reg [qq 3 (.mv (.const (S [])))]) (.seq (.seq (.reg [qq 4 (.mv (ki 0))]) (.blk 0 (.loop c18l1))) (.seq (.reg [qm 39 3,qm 2 39]) .ret))))
theorem k18:conv Tryz.prog 40 (Tryz.f18.body.getD .skip)=c18:=by kernel_rfl
theorem in18 {a0:Value} {w:World} {R:Value→World→Prop} (h:G Tryz.prog Tryz.f18 40 [.c c18] R (frL 0 [a0]) w):Ret Tryz.prog 18 #[a0] w R:=G.enter (args:=[a0]) Tryz.func18 (c:=Tryz.f18.body.getD .skip) (by kernel_rfl) (by kernel_rfl) (by simp) k18 h
theorem rspell_spec (s:Str) (w:World) (hl:s.length≤100000000000):Pu Tryz.prog 18 #[S s] w (S (sqM s)):=by
  refine in18 ?_
  have hS:=Sep.start w
  repeat' (first|((with_reducible apply G.a);exact rfl)|refine G.reg fun K hK=>?_|(with_reducible (refine hK _ _ ?_);clear hK K)|(have hk:=hK;clear hk;simp (disch:=first|exact dis|fail) only [push_cast,↓reduceIte,zq1,zq2,zq3,zq4,zq5,fct])|(refine zbsl ?_;intro gb wb hS)|(refine G.cn ?_ ?_<;>intro hc<;>first|(with_reducible exact False.elim hc)|(exfalso;omega)|skip))
  all_goals
  refine G.loop (fun r w'=>∃ k:Nat,k≤s.length∧r 4=I k∧r 3=S (sqM (s.take k))∧r 0=S s∧Sep w w' []) (fun r _=>s.length - toN (r 4)) ?_ ?_
  · exact ⟨0,Nat.zero_le _,by exact sf,by exact sf,by exact sf,hS⟩
  · clear hS
    rintro u wl ⟨k,hk,h4,h3,h0,hS⟩ ih
    have hm:toN (u 4)=k:=by rw [h4];simp [toN]
    have hle:=sqM_len (s.take k)
    have hlt2:(s.take k).length≤k:=by rw [List.length_take];omega
    by_cases hlt:(k:Int) < s.length
    · have htk:=takeB s k hlt
      (have fct:=(And.intro @h4 (And.intro @h3 @h0));repeat' (first|((with_reducible apply G.a);exact rfl)|refine G.reg fun K hK=>?_|(with_reducible (refine hK _ _ ?_);clear hK K)|(have hk:=hK;clear hk;simp (disch:=first|exact dis|fail) only [push_cast,↓reduceIte,zq1,zq2,zq3,zq4,zq5,fct])|(refine zbsl ?_;intro gb wb hS)|(refine G.cn ?_ ?_<;>intro hc<;>first|(with_reducible exact False.elim hc)|(exfalso;omega)|skip)))<;>(try clear fct)
      all_goals
        have e:sqM (s.take (k+1))=sqM (s.take k)++spB (s.getD k 0):=by rw [htk,sqM_app]
        have n92:s.getD k 0=92→((s.getD k 0).toNat:Int)=92:=fun h=>by rw [h];rfl
        have n10:s.getD k 0=10→((s.getD k 0).toNat:Int)=10:=fun h=>by rw [h];rfl
        have n13:s.getD k 0=13→((s.getD k 0).toNat:Int)=13:=fun h=>by rw [h];rfl
        first
          | rw [u8_of 92 (show ((s.getD k 0).toNat:Int)=92 by assumption),spB_92] at e
          | rw [u8_of 10 (show ((s.getD k 0).toNat:Int)=10 by assumption),spB_10] at e
          | rw [u8_of 13 (show ((s.getD k 0).toNat:Int)=13 by assumption),spB_13] at e
          | rw [spB_o (fun h=>absurd (n92 h) (by assumption)) (fun h=>absurd (n10 h) (by assumption)) (fun h=>absurd (n13 h) (by assumption))] at e
        have fct:=(And.intro @h4 (And.intro @h3 @h0));refine ih _ _ ⟨k+1,by omega,by exact sf,?_,by exact sf,(Sep.sub hS (by repeat first|exact Sub.rfl'|exact Sub.n|exact Sub.nil0|(refine Sub.c (by repeat constructor) ?_)|refine Sub.skip ?_))⟩ ?_
        · rw [e];simp only [push_cast,↓reduceIte,zq1,zq2,zq3,zq4,zq5,h4,h3,h0]<;>first|rfl|rw [show ((k:Int)+1).toNat - k=1 by omega,dropB s k hlt];rfl
        · rw [hm];simp only [push_cast,↓reduceIte,zq1,zq2,zq3,zq4,zq5,toN_i,h4,h3,h0];omega
    · (have fct:=(And.intro @h4 (And.intro @h3 @h0));repeat' (first|((with_reducible apply G.a);exact rfl)|refine G.reg fun K hK=>?_|(with_reducible (refine hK _ _ ?_);clear hK K)|(have hk:=hK;clear hk;simp (disch:=first|exact dis|fail) only [push_cast,↓reduceIte,zq1,zq2,zq3,zq4,zq5,fct])|(refine zbsl ?_;intro gb wb hS)|(refine G.cn ?_ ?_<;>intro hc<;>first|(with_reducible exact False.elim hc)|(exfalso;omega)|skip)))<;>(try clear fct)
      all_goals
        (have fct:=(And.intro @h4 (And.intro @h3 @h0));(first|refine G.r1 ?_|refine G.r2 ?_|refine G.r3 ?_|refine G.r0 ?_|refine G.d0 ?_);(try simp (disch:=first|exact dis|fail) only [push_cast,↓reduceIte,zq1,zq2,zq3,zq4,zq5,fct]);(try clear fct))
        rw [List.take_of_length_le (by omega)]
        (first|exact Sep.xt (by assumption)|exact ⟨rfl,Sep.xt (by assumption)⟩)
end Go.Proofs.YtllanbmpacgigaaGreatDoor
namespace Go.Proofs.YtllanbmpacgigaaGreatDoor
open Nat renaming reduceAdd→zq1,reduceLeDiff→zq2,reduceEqDiff→zq3,reduceLT→zq4
open Int renaming reduceToNat→zq5
set_option linter.unusedSimpArgs false
set_option linter.unusedVariables false
attribute [local irreducible] SemK UnitK StK AlcK BslK CallK CallV Instr.box Builtin.append_ Instr.makeSlice Instr.makeMap Instr.lookup Instr.mapUpdate Instr.sliceAt convert
open Go.RowKit
def c17l1:MC:=(.seq (.seq (.reg [qm 7 5,qm 8 0,qq 9 (.lenS (.tmp 8)),qq 10 (.bin .lss (.tmp 7) (.tmp 9))]) (.cond (.tmp 10) .skip (.exit 0))) (.seq (.blk 1 (.seq (.seq (.reg [qm 13 0,qm 14 5,qq 15 (.idxS (.tmp 13) (.tmp 14)),qq 16 (.bin .neq (.tmp 15) (.const (.int .u8 92)))]) (.cond (.tmp 16) (.seq (.reg [qm 17 4,qm 18 0,qm 19 5,qq 20 (.idxS (.tmp 18) (.tmp 19)),qq 21 (.bsl 5 [(.int .u8 0)] 1 [⟨0,⟨1,(.tmp 20)⟩⟩]),qq 22 (.raw (.call ⟨(.builtin .append),#[(.tmp 17),(.tmp 21)],#[65,65]⟩) 65),qm 4 22]) (.exit 1)) .skip)) (.seq (.reg [qm 23 5,qq 24 (.bin .add (.tmp 23) (ki 1)),qm 5 24]) (.seq (.seq (.reg [qm 25 5,qm 26 0,qq 27 (.lenS (.tmp 26)),qq 28 (.bin .eql (.tmp 25) (.tmp 27)),qm 29 28,qmf 29 30 0,qmf 29 31 5,qf 29 32 (.idxS (.tmp 30) (.tmp 31)),qf 29 33 (.bin .neq (.tmp 32) (.const (.int .u8 92))),qmf 29 34 33,qmt 34 35 0,qmt 34 36 5,qt 34 37 (.idxS (.tmp 35) (.tmp 36)),qt 34 38 (.bin .neq (.tmp 37) (.const (.int .u8 110))),qf 29 39 (.pick (.tmp 34) (.tmp 38) (kb false)),qmf 29 40 39,qmt 40 41 0,qmt 40 42 5,qt 40 43 (.idxS (.tmp 41) (.tmp 42)),qt 40 44 (.bin .neq (.tmp 43) (.const (.int .u8 114))),qf 29 45 (.pick (.tmp 40) (.tmp 44) (kb false)),qq 46 (.pick (.tmp 29) (kb true) (.tmp 45))]) (.cond (.tmp 46) (.seq (.reg [qq 2 (.mv (.const (S []))),qq 3 (.mv (kb false))]) .ret) .skip)) (.seq (.reg [qm 47 0,qm 48 5,qq 49 (.idxS (.tmp 47) (.tmp 48)),qm 6 49]) (.seq (.seq (.reg [qm 50 6,qq 51 (.bin .eql (.tmp 50) (.const (.int .u8 110)))]) (.cond (.tmp 51) (.reg [qq 6 (.mv (.const (.int .u8 10)))]) .skip)) (.seq (.seq (.reg [qm 52 6,qq 53 (.bin .eql (.tmp 52) (.const (.int .u8 114)))]) (.cond (.tmp 53) (.reg [qq 6 (.mv (.const (.int .u8 13)))]) .skip)) (.reg [qm 54 4,qm 55 6,qq 56 (.bsl 5 [(.int .u8 0)] 1 [⟨0,⟨1,(.tmp 55)⟩⟩]),qq 57 (.raw (.call ⟨(.builtin .append),#[(.tmp 54),(.tmp 56)],#[65,65]⟩) 65),qm 4 57])))))))) (.reg [qm 11 5,qq 12 (.bin .add (.tmp 11) (ki 1)),qm 5 12])))
def c17:MC:=(.seq (.reg [qq 2 (.mv (.const (S []))),qq 3 (.mv (kb false))]) (.seq (.reg [qq 4 (.mv (.const (.slice none 0 0)))]) (.seq (.seq (.reg [qq 5 (.mv (ki 0))]) (.blk 0 (.loop c17l1))) (.seq (.reg [qm 58 4,qq 59 (.b2s (.tmp 58)),qm 2 59,qq 3 (.mv (kb true))]) .ret))))
theorem k17:conv Tryz.prog 60 (Tryz.f17.body.getD .skip)=c17:=by kernel_rfl
theorem in17 {a0:Value} {w:World} {R:Value→World→Prop} (h:G Tryz.prog Tryz.f17 60 [.c c17] R (frL 0 [a0]) w):Ret Tryz.prog 17 #[a0] w R:=G.enter (args:=[a0]) Tryz.func17 (c:=Tryz.f17.body.getD .skip) (by kernel_rfl) (by kernel_rfl) (by simp) k17 h
set_option maxHeartbeats 1000000 in
theorem runspell_spec (s:Str) (w:World) (hl:s.length≤100000000000):Pu Tryz.prog 17 #[S s] w (.tuple #[S ((unL s).getD []),.bool (unL s).isSome]):=by
  refine in17 ?_
  have hS:=Sep.start w
  repeat' (first|((with_reducible apply G.a);exact rfl)|refine G.reg fun K hK=>?_|(with_reducible (refine hK _ _ ?_);clear hK K)|(have hk:=hK;clear hk;simp (disch:=first|exact dis|fail) only [push_cast,↓reduceIte,zq1,zq2,zq3,zq4,zq5,fct])|(refine brO_n ?_ ?_<;>intro hb hc<;>first|(with_reducible exact False.elim hc)|(exfalso;omega)|(simp only [hb];clear hb))|(refine zbsl ?_;intro gb wb hS)|(refine G.cn ?_ ?_<;>intro hc<;>first|(with_reducible exact False.elim hc)|(exfalso;omega)|skip))
  all_goals
  have hS:=hS.nil 5 eU
  refine G.loop (fun r w'=>∃ (k:Nat) (out:Str) (lv:Value),k≤s.length∧out.length≤k∧r 5=I k∧r 4=lv∧r 0=S s∧unL s=(unL (s.drop k)).map (out++·)∧Sep w w' [accC lv 5 eU out]) (fun r _=>s.length - toN (r 5)) ?_ ?_
  · exact ⟨0,[],.slice none 0 0,Nat.zero_le _,Nat.le_refl _,by exact sf,by exact sf,by exact sf,by simp,hS⟩
  · clear hS
    rintro u wl ⟨k,out,lv,hk,ho,h5,h4,h0,e,hS⟩ ih
    have hm:toN (u 5)=k:=by rw [h5];simp [toN]
    by_cases hlt:(k:Int) < s.length
    · rw [dropB s k hlt] at e
      have hd2:=dropB s (k+1)
      have ht:((k:Int)+1).toNat=k+1:=by omega
      generalize hbb:s.getD k 0=b at *
      by_cases hb:(b.toNat:Int)=92
      · have hb2:b=92:=u8_eq (c:=92) (n:=92) rfl hb
        rw [hb2] at e
        by_cases hk1:(k:Int)+1 < s.length
        · rw [hd2 (by push_cast;omega),unL_pair] at e
          generalize hcc:s.getD (k+1) 0=c at *
          by_cases c1:(c.toNat:Int)=92
          · have hc2:=u8_eq (c:=92) (n:=92) rfl c1
            rw [if_pos hc2,Option.map_map,app_comp] at e
            (have fct:=(And.intro @h5 (And.intro @h4 (And.intro @h0 (And.intro @ht (And.intro @hbb (And.intro @hb (And.intro @hcc @c1)))))));repeat' (first|((with_reducible apply G.a);exact rfl)|refine G.reg fun K hK=>?_|(with_reducible (refine hK _ _ ?_);clear hK K)|(have hk:=hK;clear hk;simp (disch:=first|exact dis|fail) only [push_cast,↓reduceIte,zq1,zq2,zq3,zq4,zq5,fct])|(refine brO_n ?_ ?_<;>intro hb hc<;>first|(with_reducible exact False.elim hc)|(exfalso;omega)|(simp only [hb];clear hb))|(refine zbsl ?_;intro gb wb hS)|(refine zap (y:=(92:UInt8)) ?_ (hy:=by rfl);intro vb wb hS)|(refine G.cn ?_ ?_<;>intro hc<;>first|(with_reducible exact False.elim hc)|(exfalso;omega)|skip)))<;>(try clear fct)
            all_goals
              have fct:=(And.intro @h5 (And.intro @h4 @h0));refine ih _ _ ⟨k+2,out++[92],vb,by omega,by (rw [List.length_append];simp only [List.length_cons,List.length_nil];omega),by simp only [push_cast,↓reduceIte,zq1,zq2,zq3,zq4,zq5,h5,h4,h0]<;>omega,by exact sf,by exact sf,e,hS⟩ ?_
              rw [hm];simp only [push_cast,↓reduceIte,zq1,zq2,zq3,zq4,zq5,toN_i,h5,h4,h0];omega
          have n1:=u8_ne (c:=92) (n:=92) rfl c1
          rw [if_neg n1] at e
          by_cases c1:(c.toNat:Int)=110
          · have hc2:=u8_eq (c:=110) (n:=110) rfl c1
            rw [if_pos hc2,Option.map_map,app_comp] at e
            (have fct:=(And.intro @h5 (And.intro @h4 (And.intro @h0 (And.intro @ht (And.intro @hbb (And.intro @hb (And.intro @hcc @c1)))))));repeat' (first|((with_reducible apply G.a);exact rfl)|refine G.reg fun K hK=>?_|(with_reducible (refine hK _ _ ?_);clear hK K)|(have hk:=hK;clear hk;simp (disch:=first|exact dis|fail) only [push_cast,↓reduceIte,zq1,zq2,zq3,zq4,zq5,fct])|(refine brO_n ?_ ?_<;>intro hb hc<;>first|(with_reducible exact False.elim hc)|(exfalso;omega)|(simp only [hb];clear hb))|(refine zbsl ?_;intro gb wb hS)|(refine zap (y:=(10:UInt8)) ?_ (hy:=by rfl);intro vb wb hS)|(refine G.cn ?_ ?_<;>intro hc<;>first|(with_reducible exact False.elim hc)|(exfalso;omega)|skip)))<;>(try clear fct)
            all_goals
              have fct:=(And.intro @h5 (And.intro @h4 @h0));refine ih _ _ ⟨k+2,out++[10],vb,by omega,by (rw [List.length_append];simp only [List.length_cons,List.length_nil];omega),by simp only [push_cast,↓reduceIte,zq1,zq2,zq3,zq4,zq5,h5,h4,h0]<;>omega,by exact sf,by exact sf,e,hS⟩ ?_
              rw [hm];simp only [push_cast,↓reduceIte,zq1,zq2,zq3,zq4,zq5,toN_i,h5,h4,h0];omega
          have n2:=u8_ne (c:=110) (n:=110) rfl c1
          rw [if_neg n2] at e
          by_cases c1:(c.toNat:Int)=114
          · have hc2:=u8_eq (c:=114) (n:=114) rfl c1
            rw [if_pos hc2,Option.map_map,app_comp] at e
            (have fct:=(And.intro @h5 (And.intro @h4 (And.intro @h0 (And.intro @ht (And.intro @hbb (And.intro @hb (And.intro @hcc @c1)))))));repeat' (first|((with_reducible apply G.a);exact rfl)|refine G.reg fun K hK=>?_|(with_reducible (refine hK _ _ ?_);clear hK K)|(have hk:=hK;clear hk;simp (disch:=first|exact dis|fail) only [push_cast,↓reduceIte,zq1,zq2,zq3,zq4,zq5,fct])|(refine brO_n ?_ ?_<;>intro hb hc<;>first|(with_reducible exact False.elim hc)|(exfalso;omega)|(simp only [hb];clear hb))|(refine zbsl ?_;intro gb wb hS)|(refine zap (y:=(13:UInt8)) ?_ (hy:=by rfl);intro vb wb hS)|(refine G.cn ?_ ?_<;>intro hc<;>first|(with_reducible exact False.elim hc)|(exfalso;omega)|skip)))<;>(try clear fct)
            all_goals
              have fct:=(And.intro @h5 (And.intro @h4 @h0));refine ih _ _ ⟨k+2,out++[13],vb,by omega,by (rw [List.length_append];simp only [List.length_cons,List.length_nil];omega),by simp only [push_cast,↓reduceIte,zq1,zq2,zq3,zq4,zq5,h5,h4,h0]<;>omega,by exact sf,by exact sf,e,hS⟩ ?_
              rw [hm];simp only [push_cast,↓reduceIte,zq1,zq2,zq3,zq4,zq5,toN_i,h5,h4,h0];omega
          have n3:=u8_ne (c:=114) (n:=114) rfl c1
          rw [if_neg n3] at e
          have e2:unL s=none:=by rw [e];rfl
          (have fct:=(And.intro @h5 (And.intro @h4 (And.intro @h0 (And.intro @ht (And.intro @hbb (And.intro @hb @hcc))))));repeat' (first|((with_reducible apply G.a);exact rfl)|refine G.reg fun K hK=>?_|(with_reducible (refine hK _ _ ?_);clear hK K)|(have hk:=hK;clear hk;simp (disch:=first|exact dis|fail) only [push_cast,↓reduceIte,zq1,zq2,zq3,zq4,zq5,fct])|(refine brO_n ?_ ?_<;>intro hb hc<;>first|(with_reducible exact False.elim hc)|(exfalso;omega)|(simp only [hb];clear hb))|(refine zbsl ?_;intro gb wb hS)|(refine G.cn ?_ ?_<;>intro hc<;>first|(with_reducible exact False.elim hc)|(exfalso;omega)|skip)))<;>(try clear fct)
          all_goals
            (have fct:=(And.intro @h5 (And.intro @h4 (And.intro @h0 @e2)));(first|refine G.r1 ?_|refine G.r2 ?_|refine G.r3 ?_|refine G.r0 ?_|refine G.d0 ?_);(try simp (disch:=first|exact dis|fail) only [push_cast,↓reduceIte,zq1,zq2,zq3,zq4,zq5,fct]);(try clear fct))
            (first|exact Sep.xt (by assumption)|exact ⟨rfl,Sep.xt (by assumption)⟩)
        · rw [List.drop_eq_nil_of_le (show s.length≤k+1 by omega),unL_one] at e
          have e2:unL s=none:=by rw [e];rfl
          (have fct:=(And.intro @h5 (And.intro @h4 (And.intro @h0 (And.intro @ht (And.intro @hbb @hb)))));repeat' (first|((with_reducible apply G.a);exact rfl)|refine G.reg fun K hK=>?_|(with_reducible (refine hK _ _ ?_);clear hK K)|(have hk:=hK;clear hk;simp (disch:=first|exact dis|fail) only [push_cast,↓reduceIte,zq1,zq2,zq3,zq4,zq5,fct])|(refine brO_n ?_ ?_<;>intro hb hc<;>first|(with_reducible exact False.elim hc)|(exfalso;omega)|(simp only [hb];clear hb))|(refine zbsl ?_;intro gb wb hS)|(refine G.cn ?_ ?_<;>intro hc<;>first|(with_reducible exact False.elim hc)|(exfalso;omega)|skip)))<;>(try clear fct)
          all_goals
            (have fct:=(And.intro @h5 (And.intro @h4 (And.intro @h0 @e2)));(first|refine G.r1 ?_|refine G.r2 ?_|refine G.r3 ?_|refine G.r0 ?_|refine G.d0 ?_);(try simp (disch:=first|exact dis|fail) only [push_cast,↓reduceIte,zq1,zq2,zq3,zq4,zq5,fct]);(try clear fct))
            (first|exact Sep.xt (by assumption)|exact ⟨rfl,Sep.xt (by assumption)⟩)
      · rw [unL_o _ (u8_ne (n:=92) rfl hb),Option.map_map,app_comp] at e
        (have fct:=(And.intro @h5 (And.intro @h4 (And.intro @h0 (And.intro @hbb @hb))));repeat' (first|((with_reducible apply G.a);exact rfl)|refine G.reg fun K hK=>?_|(with_reducible (refine hK _ _ ?_);clear hK K)|(have hk:=hK;clear hk;simp (disch:=first|exact dis|fail) only [push_cast,↓reduceIte,zq1,zq2,zq3,zq4,zq5,fct])|(refine brO_n ?_ ?_<;>intro hb hc<;>first|(with_reducible exact False.elim hc)|(exfalso;omega)|(simp only [hb];clear hb))|(refine zbsl ?_;intro gb wb hS)|(refine zap (y:=b) ?_ (hy:=by rfl);intro vb wb hS)|(refine G.cn ?_ ?_<;>intro hc<;>first|(with_reducible exact False.elim hc)|(exfalso;omega)|skip)))<;>(try clear fct)
        all_goals
          have fct:=(And.intro @h5 (And.intro @h4 @h0));refine ih _ _ ⟨k+1,out++[b],vb,by omega,by (rw [List.length_append];simp only [List.length_cons,List.length_nil];omega),by simp only [push_cast,↓reduceIte,zq1,zq2,zq3,zq4,zq5,h5,h4,h0]<;>omega,by exact sf,by exact sf,e,hS⟩ ?_
          rw [hm];simp only [push_cast,↓reduceIte,zq1,zq2,zq3,zq4,zq5,toN_i,h5,h4,h0];omega
    · rw [List.drop_eq_nil_of_le (by omega)] at e
      have e2:unL s=some out:=by rw [e];simp [unL]
      (have fct:=(And.intro @h5 (And.intro @h4 @h0));repeat' (first|((with_reducible apply G.a);exact rfl)|refine G.reg fun K hK=>?_|(with_reducible (refine hK _ _ ?_);clear hK K)|(have hk:=hK;clear hk;simp (disch:=first|exact dis|fail) only [push_cast,↓reduceIte,zq1,zq2,zq3,zq4,zq5,fct])|(refine brO_n ?_ ?_<;>intro hb hc<;>first|(with_reducible exact False.elim hc)|(exfalso;omega)|(simp only [hb];clear hb))|(refine zbsl ?_;intro gb wb hS)|(refine G.cn ?_ ?_<;>intro hc<;>first|(with_reducible exact False.elim hc)|(exfalso;omega)|skip)))<;>(try clear fct)
      all_goals
        (have fct:=(And.intro @h5 (And.intro @h4 (And.intro @h0 @e2)));(first|refine G.r1 ?_|refine G.r2 ?_|refine G.r3 ?_|refine G.r0 ?_|refine G.d0 ?_);(try simp (disch:=first|exact dis|fail) only [push_cast,↓reduceIte,zq1,zq2,zq3,zq4,zq5,fct]);(try clear fct))
        (first|exact Sep.xt (by assumption)|exact ⟨rfl,Sep.xt (by assumption)⟩)
end Go.Proofs.YtllanbmpacgigaaGreatDoor
