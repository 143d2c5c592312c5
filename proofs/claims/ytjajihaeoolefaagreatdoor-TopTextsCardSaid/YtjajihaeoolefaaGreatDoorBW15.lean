/- Texts of the proof, joined. -/
import Derived.Test.YtjajihaeoolefaaGreatDoorBP15
import Derived.Test.YtjajihaeoolefaaGreatDoorBR02
import Derived.Test.YtjajihaeoolefaaGreatDoorBW02
namespace Go.Proofs.YtjajihaeoolefaaGreatDoor
open Nat renaming reduceAdd→zq1,reduceLeDiff→zq2,reduceEqDiff→zq3,reduceLT→zq4
open Int renaming reduceToNat→zq5
set_option linter.unusedSimpArgs false
set_option linter.unusedVariables false
attribute [local irreducible] SemK UnitK StK AlcK BslK CallK CallV Instr.box Builtin.append_ Instr.makeSlice Instr.makeMap Instr.lookup Instr.mapUpdate Instr.sliceAt convert
open Go.RowKit
def c63:MC:=(.seq (.reg [qq 4 (.mv (ki 0)),qq 5 (.mv (kb false))]) (.seq (.reg [qm 9 0,qq 10 (.nck (.tmp 9)),qq 11 (.fad 1 (.tmp 10)),qq 12 (.ld none (.tmp 11)),qm 13 1,qq 14 (.raw (.lookup 109 (.tmp 12) (.tmp 13) true) 111),qm 8 14,qq 15 (.ext 0 (.tmp 8)),qq 16 (.ext 1 (.tmp 8)),qm 6 15,qm 7 16]) (.seq (.reg [qm 17 6,qm 18 7,qm 4 17,qm 5 18]) .ret)))
theorem k63:conv Tryz.prog 19 (Tryz.f63.body.getD .skip)=c63:=by kernel_rfl
theorem in63 {a0 a1:Value} {w:World} {R:Value→World→Prop} (h:G Tryz.prog Tryz.f63 19 [.c c63] R (frL 0 [a0,a1]) w):Ret Tryz.prog 63 #[a0,a1] w R:=G.enter (args:=[a0,a1]) Tryz.func63 (c:=Tryz.f63.body.getD .skip) (by kernel_rfl) (by kernel_rfl) (by simp) k63 h
theorem at_spec {g r:Nat} {sv:Value} {names:List Str} {w:World} (hB:Blk w g 175 [sv,.map (some r)].toArray) (hM:MapRd w r I (mtM names)) (name:Str) :
    Pu Tryz.prog 63 #[.pointer (some ⟨g,0,none⟩),S name] w (.tuple #[I (max (atM names name) 0),.bool (decide (0≤atM names name))]):=by
  refine in63 ?_
  have hS:=Sep.start w
  repeat' (first|((with_reducible apply G.a);exact rfl)|refine G.reg fun K hK=>?_|(with_reducible (refine hK _ _ ?_);clear hK K)|(have hk:=hK;clear hk;simp (disch:=first|exact dis|fail) only [push_cast,↓reduceIte,zq1,zq2,zq3,zq4,zq5,fct])|(refine zlk ?_))
  (have fct:=(And.intro @mtM_get @mtM_some);(first|refine G.r1 ?_|refine G.r2 ?_|refine G.r3 ?_|refine G.r0 ?_|refine G.d0 ?_);(try simp (disch:=first|exact dis|fail) only [push_cast,↓reduceIte,zq1,zq2,zq3,zq4,zq5,fct]);(try clear fct))
  exact Sep.xt (by assumption)
def c83:MC:=(.seq (.reg [qq 2 (.mv (.const (.slice none 0 0)))]) (.seq (.seq (.reg [qm 3 0,qq 4 (.raw (.binOp .eql 28 (.tmp 3) (.const (.slice none 0 0)) 28) 4)]) (.cond (.tmp 4) (.seq (.reg [qq 2 (.mv (.const (.slice none 0 0)))]) .ret) .skip)) (.seq (.reg [qq 5 (.bsl 9 [] 0 []),qm 6 0,qq 7 (.raw (.call ⟨(.builtin .append),#[(.tmp 5),(.tmp 6)],#[28,28]⟩) 28),qm 2 7]) .ret)))
theorem k83:conv Tryz.prog 8 (Tryz.f83.body.getD .skip)=c83:=by kernel_rfl
theorem in83 {a0:Value} {w:World} {R:Value→World→Prop} (h:G Tryz.prog Tryz.f83 8 [.c c83] R (frL 0 [a0]) w):Ret Tryz.prog 83 #[a0] w R:=G.enter (args:=[a0]) Tryz.func83 (c:=Tryz.f83.body.getD .skip) (by kernel_rfl) (by kernel_rfl) (by simp) k83 h
theorem clone_spec {v:Value} {l:List Str} {w:World} (hr:Rd w eS v l) (hl:l.length≤1000000000000):Ret Tryz.prog 83 #[v] w fun v' w'=>Sep w w' [accC v' 9 eS l]:=by
  refine in83 ?_
  have hS:=Sep.start w
  repeat' (first|((with_reducible apply G.a);exact rfl)|refine G.reg fun K hK=>?_|(with_reducible (refine hK _ _ ?_);clear hK K)|(have hk:=hK;clear hk;simp (disch:=first|exact dis|fail) only [push_cast,↓reduceIte,zq1,zq2,zq3,zq4,zq5,fct])|(refine zbsl ?_;intro gb wb hS)|(refine zn1 ?_)|(refine zn2 ?_)|(refine zn3 ?_)|(refine zn4 ?_)|(refine G.cn ?_ ?_<;>intro hc<;>first|(with_reducible exact False.elim hc)|(exfalso;omega)|skip))
  · obtain ⟨p,cap,rfl,h2,h3,h4,h5⟩:=hr
    have:l=[]:=by
      rcases Nat.eq_zero_or_pos l.length with h|h
      · exact List.eq_nil_of_length_eq_zero h
      · obtain ⟨a,ha,_⟩:=h5 h;subst ha;simp [isNil] at hc
    subst this
    (first|refine G.r1 ?_|refine G.r2 ?_|refine G.r3 ?_|refine G.r0 ?_|refine G.d0 ?_);(try simp (disch:=first|exact dis|fail) only [push_cast,↓reduceIte,zq1,zq2,zq3,zq4,zq5,fct])
    exact hS.nil _ _
  · have hS:=Sep.toAcc (E:=eS) ([]:List Str) hS Up.h rfl rfl (by simp) (by simp)
    ((refine zan ?_;intro vb wb hS))
    repeat' (first|((with_reducible apply G.a);exact rfl)|refine G.reg fun K hK=>?_|(with_reducible (refine hK _ _ ?_);clear hK K)|(have hk:=hK;clear hk;simp (disch:=first|exact dis|fail) only [push_cast,↓reduceIte,zq1,zq2,zq3,zq4,zq5,fct])|(refine zbsl ?_;intro gb wb hS)|(refine G.cn ?_ ?_<;>intro hc<;>first|(with_reducible exact False.elim hc)|(exfalso;omega)|skip))
    repeat' (first|((with_reducible apply G.a);exact rfl)|refine G.reg fun K hK=>?_|(with_reducible (refine hK _ _ ?_);clear hK K)|(have hk:=hK;clear hk;simp (disch:=first|exact dis|fail) only [push_cast,↓reduceIte,zq1,zq2,zq3,zq4,zq5,fct])|(refine zbsl ?_;intro gb wb hS)|(refine G.cn ?_ ?_<;>intro hc<;>first|(with_reducible exact False.elim hc)|(exfalso;omega)|skip))
    (first|refine G.r1 ?_|refine G.r2 ?_|refine G.r3 ?_|refine G.r0 ?_|refine G.d0 ?_);(try simp (disch:=first|exact dis|fail) only [push_cast,↓reduceIte,zq1,zq2,zq3,zq4,zq5,fct])
    exact hS
def c62l1:MC:=(.seq (.reg [qq 19 (.bin .lss (.tmp 18) (.tmp 17))]) (.seq (.cond (.tmp 19) .skip (.exit 0)) (.seq (.blk 1 (.seq (.reg [qm 20 18,qq 21 (.adr 1 (.tmp 16) (.tmp 18)),qq 22 (.ld none (.tmp 21)),qm 6 20,qm 7 22]) (.seq (.seq (.reg [qm 23 7,qq 24 (.call 55 [(.tmp 23)]),qq 25 (.un .not (.tmp 24))]) (.cond (.tmp 25) (.seq (.reg [qm 26 6,qq 2 (.mv (.const (.pointer none))),qm 3 26,qq 4 (.mv (ki 14))]) .ret) .skip)) (.seq (.seq (.reg [qm 28 5,qm 29 7,qq 30 (.raw (.lookup 109 (.tmp 28) (.tmp 29) true) 111),qm 27 30,qq 31 (.ext 0 (.tmp 27)),qq 32 (.ext 1 (.tmp 27)),qm 8 31,qm 9 32]) (.seq (.reg [qm 33 9]) (.cond (.tmp 33) (.seq (.reg [qm 34 6,qq 2 (.mv (.const (.pointer none))),qm 3 34,qq 4 (.mv (ki 15))]) .ret) .skip))) (.reg [qm 35 5,qm 36 7,qm 37 6,qn (.raw (.mapUpdate 109 (.tmp 35) (.tmp 36) (.tmp 37)) 0)]))))) (.reg [qq 38 (.bin .add (.tmp 18) (ki 1)),qm 18 38]))))
def c62:MC:=(.seq (.reg [qq 2 (.mv (.const (.pointer none))),qq 3 (.mv (ki 0)),qq 4 (.mv (ki 0))]) (.seq (.seq (.reg [qm 10 0,qq 11 (.len (.tmp 10)),qq 12 (.bin .eql (.tmp 11) (ki 0))]) (.cond (.tmp 12) (.seq (.reg [qq 2 (.mv (.const (.pointer none))),qq 3 (.mv (ki 0)),qq 4 (.mv (ki 13))]) .ret) .skip)) (.seq (.reg [qm 13 0,qq 14 (.len (.tmp 13)),qq 15 (.raw (.makeMap 109 (.some (.tmp 14))) 109),qm 5 15]) (.seq (.seq (.reg [qm 16 0,qq 17 (.len (.tmp 16)),qq 18 (.mv (ki 0))]) (.blk 0 (.loop c62l1))) (.seq (.reg [qm 39 0,qq 40 (.call 83 [(.tmp 39)]),qm 41 5,qq 42 (.bld [(.slice none 0 0),(.map none)] [⟨0,⟨1,(.tmp 40)⟩⟩,⟨1,⟨1,(.tmp 41)⟩⟩]),qq 43 (.raw (.box 175 (.tmp 42)) 142),qm 44 0,qq 45 (.len (.tmp 44)),qm 2 43,qm 3 45,qq 4 (.mv (ki 0))]) .ret)))))
theorem k62:conv Tryz.prog 46 (Tryz.f62.body.getD .skip)=c62:=by kernel_rfl
theorem in62 {a0:Value} {w:World} {R:Value→World→Prop} (h:G Tryz.prog Tryz.f62 46 [.c c62] R (frL 0 [a0]) w):Ret Tryz.prog 62 #[a0] w R:=G.enter (args:=[a0]) Tryz.func62 (c:=Tryz.f62.body.getD .skip) (by kernel_rfl) (by kernel_rfl) (by simp) k62 h
theorem new_spec {v:Value} {names:List Str} {w:World} (hr:Rd w eS v names) (hl:names.length≤1000000000) (hl2:∀ s∈names,s.length≤100000000000) :
    Ret Tryz.prog 62 #[v] w fun res w'=>((newM names).2≠0∧res=.tuple #[.pointer none,I (newM names).1,I (newM names).2]∧Ext w w') ∨
      ((newM names).2=0∧∃ g sv r,res=.tuple #[.pointer (some ⟨g,0,none⟩),I names.length,I 0]∧Sep w w' [boxC g 175 [sv,.map (some r)],accC sv 9 eS names,mapC r I (mtM names)]):=by
  refine in62 ?_
  have hS:=Sep.start w
  have hbd:=hr.bd
  repeat' (first|((with_reducible apply G.a);exact rfl)|refine G.reg fun K hK=>?_|(with_reducible (refine hK _ _ ?_);clear hK K)|(have hk:=hK;clear hk;simp (disch:=first|exact dis|fail) only [push_cast,↓reduceIte,zq1,zq2,zq3,zq4,zq5,fct])|(((with_reducible refine gBox ?_);refine zbox ?_);intro gb wb hS)|(refine zmm I ?_;intro gb wb hS)|(refine G.cn ?_ ?_<;>intro hc<;>first|(with_reducible exact False.elim hc)|(exfalso;omega)|skip))
  · (first|refine G.r1 ?_|refine G.r2 ?_|refine G.r3 ?_|refine G.r0 ?_|refine G.d0 ?_);(try simp (disch:=first|exact dis|fail) only [push_cast,↓reduceIte,zq1,zq2,zq3,zq4,zq5,fct])
    left
    have h0:newM names=(0,13):=by simp only [newM];rw [if_pos (by omega)]
    rw [h0]
    exact ⟨by decide,rfl,Sep.xt (by assumption)⟩
  · have h0:newM names=newF [] names:=by simp only [newM];rw [if_neg (by omega)]
    refine G.loop (fun r w'=>∃ k:Nat,k≤names.length∧r 18=I k∧r 17=I names.length∧r 16=v∧r 0=v∧r 5=.map (some gb)∧newM names=newF (names.take k) (names.drop k)∧Sep w w' [mapC gb I (mtM (names.take k))]) (fun r _=>names.length - toN (r 18)) ?_ ?_
    · refine ⟨0,?_⟩
      rw [←mtM_nil] at hS
      ((repeat' apply And.intro)<;>first|exact dj|(simp only [push_cast,↓reduceIte,zq1,zq2,zq3,zq4,zq5]<;>omega)|skip)
    · rintro u wl ⟨k,hk,h18,h17,h16,hu0,h5,e,hS⟩ ih
      (have fct:=(And.intro @h18 (And.intro @h17 (And.intro @h16 (And.intro @hu0 (And.intro @h5 (And.intro @mtM_get @mtM_some))))));repeat' (first|((with_reducible apply G.a);exact rfl)|refine G.reg fun K hK=>?_|(with_reducible (refine hK _ _ ?_);clear hK K)|(have hk:=hK;clear hk;simp (disch:=first|exact dis|fail) only [push_cast,↓reduceIte,zq1,zq2,zq3,zq4,zq5,fct])|(((with_reducible refine gBox ?_);refine zbox ?_);intro gb wb hS)|(refine zcp 55 (valid_spec _ _ (by have:=hl2 _ (getD_mem names k (by omega));omega)) ?_;intro wb hS)|(refine zlk ?_)|(refine zmu ?_;intro wb hS)|(refine zco 83 (clone_spec (hr.ext hS.x) (by omega)) ?_;rintro vb wb hS2;have hS:=hS2.ap;simp only [apps] at hS)|(refine G.cn ?_ ?_<;>intro hc<;>first|(with_reducible exact False.elim hc)|(exfalso;omega)|skip)))<;>(try clear fct)
      · (have fct:=(And.intro @h18 (And.intro @h17 (And.intro @h16 (And.intro @hu0 @h5))));(first|refine G.r1 ?_|refine G.r2 ?_|refine G.r3 ?_|refine G.r0 ?_|refine G.d0 ?_);(try simp (disch:=first|exact dis|fail) only [push_cast,↓reduceIte,zq1,zq2,zq3,zq4,zq5,fct]);(try clear fct))
        left
        have h1:newM names=((k:Int),14):=by
          rw [e,dropD _ _ (by assumption),newF,if_neg (by rw [hc];simp)]
          simp;omega
        rw [h1]
        exact ⟨by simp,rfl,Sep.xt (by assumption)⟩
      · (have fct:=(And.intro @h18 (And.intro @h17 (And.intro @h16 (And.intro @hu0 @h5))));(first|refine G.r1 ?_|refine G.r2 ?_|refine G.r3 ?_|refine G.r0 ?_|refine G.d0 ?_);(try simp (disch:=first|exact dis|fail) only [push_cast,↓reduceIte,zq1,zq2,zq3,zq4,zq5,fct]);(try clear fct))
        left
        have h1:newM names=((k:Int),15):=by
          rw [e,dropD _ _ (by assumption),newF,if_pos (by assumption),if_pos hc]
          simp;omega
        rw [h1]
        exact ⟨by simp,rfl,Sep.xt (by assumption)⟩
      · rw [mtM_put _ _ _ (by simp;omega) (by omega),←takeD _ _ (by assumption)] at hS
        (refine ih _ _ ⟨k+1,?_⟩ ?_;rotate_left;(focus ((simp only [push_cast,↓reduceIte,zq1,zq2,zq3,zq4,zq5,toN_i,h18,h17,h16,hu0,h5]<;>omega)));((repeat' apply And.intro)<;>first|exact dj|(simp only [push_cast,↓reduceIte,zq1,zq2,zq3,zq4,zq5,h18,h17,h16,hu0,h5]<;>omega)|skip))
        rw [e,dropD _ _ (by assumption),newF,if_pos (by assumption),if_neg (by omega),←takeD _ _ (by assumption)]
      · (have fct:=(And.intro @h18 (And.intro @h17 (And.intro @h16 (And.intro @hu0 @h5))));(first|refine G.r1 ?_|refine G.r2 ?_|refine G.r3 ?_|refine G.r0 ?_|refine G.d0 ?_);(try simp (disch:=first|exact dis|fail) only [push_cast,↓reduceIte,zq1,zq2,zq3,zq4,zq5,fct]);(try clear fct))
        right
        have hk2:k=names.length:=by omega
        subst hk2
        rw [List.take_length,List.drop_length] at e
        rw [List.take_length] at hS
        refine ⟨by rw [e];rfl,_,_,_,rfl,hS⟩
end Go.Proofs.YtjajihaeoolefaaGreatDoor
namespace Go.Proofs.YtjajihaeoolefaaGreatDoor
open Nat renaming reduceAdd→zq1,reduceLeDiff→zq2,reduceEqDiff→zq3,reduceLT→zq4
open Int renaming reduceToNat→zq5
set_option linter.unusedSimpArgs false
set_option linter.unusedVariables false
attribute [local irreducible] SemK UnitK StK AlcK BslK CallK CallV Instr.box Builtin.append_ Instr.makeSlice Instr.makeMap Instr.lookup Instr.mapUpdate Instr.sliceAt convert
open Go.RowKit
end Go.Proofs.YtjajihaeoolefaaGreatDoor
namespace Go.Proofs.YtjajihaeoolefaaGreatDoor
open Nat renaming reduceAdd→zq1,reduceLeDiff→zq2,reduceEqDiff→zq3,reduceLT→zq4
open Int renaming reduceToNat→zq5
set_option linter.unusedSimpArgs false
set_option linter.unusedVariables false
attribute [local irreducible] SemK UnitK StK AlcK BslK CallK CallV Instr.box Builtin.append_ Instr.makeSlice Instr.makeMap Instr.lookup Instr.mapUpdate Instr.sliceAt convert
open Go.RowKit
def c54:MC:=(.seq (.reg [qq 2 (.mv (.const (S [])))]) (.seq (.seq (.reg [qm 3 0]) (.blk 0 (.seq (.reg [qq 5 (.bin .eql (.tmp 3) (ki 1)),qm 4 5]) (.cond (.tmp 4) (.seq (.reg [qq 2 (.mv (.const (S [116,101,120,116])))]) .ret) (.seq (.reg [qq 7 (.bin .eql (.tmp 3) (ki 2)),qm 6 7]) (.cond (.tmp 6) (.seq (.reg [qq 2 (.mv (.const (S [105,110,116])))]) .ret) (.seq (.reg [qq 9 (.bin .eql (.tmp 3) (ki 3)),qm 8 9]) (.cond (.tmp 8) (.seq (.reg [qq 2 (.mv (.const (S [98,111,111,108])))]) .ret) .skip)))))))) (.seq (.reg [qq 2 (.mv (.const (S [])))]) .ret)))
theorem k54:conv Tryz.prog 10 (Tryz.f54.body.getD .skip)=c54:=by kernel_rfl
theorem in54 {a0:Value} {w:World} {R:Value→World→Prop} (h:G Tryz.prog Tryz.f54 10 [.c c54] R (frL 0 [a0]) w):Ret Tryz.prog 54 #[a0] w R:=G.enter (args:=[a0]) Tryz.func54 (c:=Tryz.f54.body.getD .skip) (by kernel_rfl) (by kernel_rfl) (by simp) k54 h
theorem sword_spec (k:Int) (w:World):Pu Tryz.prog 54 #[I k] w (S (wordM k)):=by
  refine in54 ?_
  have hS:=Sep.start w
  unfold wordM
  repeat' (first|((with_reducible apply G.a);exact rfl)|refine G.reg fun K hK=>?_|(with_reducible (refine hK _ _ ?_);clear hK K)|(have hk:=hK;clear hk;simp (disch:=first|exact dis|fail) only [push_cast,↓reduceIte,zq1,zq2,zq3,zq4,zq5,fct])|(refine G.cn ?_ ?_<;>intro hc<;>first|(with_reducible exact False.elim hc)|(exfalso;omega)|skip))
  all_goals
    (first|refine G.r1 ?_|refine G.r2 ?_|refine G.r3 ?_|refine G.r0 ?_|refine G.d0 ?_);(try simp (disch:=first|exact dis|fail) only [push_cast,↓reduceIte,zq1,zq2,zq3,zq4,zq5,fct])
    (refine ⟨?_,Sep.xt (by assumption)⟩)
    first|rw [if_pos (by omega)]|rw [if_neg (by omega),if_pos (by omega)]|rw [if_neg (by omega),if_neg (by omega),if_pos (by omega)]|rw [if_neg (by omega),if_neg (by omega),if_neg (by omega)]
def c24l1:MC:=(.seq (.reg [qq 14 (.bin .lss (.tmp 13) (.tmp 12))]) (.seq (.cond (.tmp 14) .skip (.exit 0)) (.seq (.blk 1 (.seq (.reg [qm 15 13,qq 16 (.adr 3 (.tmp 11) (.tmp 13)),qq 17 (.ld (.some 3) (.tmp 16)),qq 6 (.alc 74 [(S []),(.int .i64 0),(.bool false)]),qm 5 15,qn (.st 3 (.tmp 6) (.tmp 17))]) (.seq (.blk 2 (.seq (.reg [qq 19 (.fad 1 (.tmp 6)),qq 20 (.ld none (.tmp 19)),qq 21 (.call 54 [(.tmp 20)]),qq 22 (.bin .eql (.tmp 21) (.const (S []))),qm 18 22]) (.cond (.tmp 18) (.seq (.reg [qm 23 5,qm 2 23,qq 3 (.mv (ki 21))]) .ret) (.seq (.reg [qq 25 (.fad 0 (.tmp 6)),qq 26 (.ld none (.tmp 25)),qq 27 (.call 55 [(.tmp 26)]),qq 28 (.un .not (.tmp 27)),qm 24 28]) (.cond (.tmp 24) (.seq (.reg [qm 29 5,qm 2 29,qq 3 (.mv (ki 14))]) .ret) (.seq (.reg [qm 31 4,qq 32 (.fad 0 (.tmp 6)),qq 33 (.ld none (.tmp 32)),qq 34 (.raw (.lookup 77 (.tmp 31) (.tmp 33) false) 4),qm 30 34]) (.cond (.tmp 30) (.seq (.reg [qm 35 5,qm 2 35,qq 3 (.mv (ki 15))]) .ret) .skip))))))) (.reg [qm 36 4,qq 37 (.fad 0 (.tmp 6)),qq 38 (.ld none (.tmp 37)),qn (.raw (.mapUpdate 77 (.tmp 36) (.tmp 38) (kb true)) 0)])))) (.reg [qq 39 (.bin .add (.tmp 13) (ki 1)),qm 13 39]))))
def c24:MC:=(.seq (.reg [qq 2 (.mv (ki 0)),qq 3 (.mv (ki 0))]) (.seq (.seq (.reg [qm 7 0,qq 8 (.len (.tmp 7)),qq 9 (.bin .eql (.tmp 8) (ki 0))]) (.cond (.tmp 9) (.seq (.reg [qq 2 (.mv (ki 0)),qq 3 (.mv (ki 13))]) .ret) .skip)) (.seq (.reg [qq 10 (.raw (.makeMap 77 none) 77),qm 4 10]) (.seq (.seq (.reg [qm 11 0,qq 12 (.len (.tmp 11)),qq 13 (.mv (ki 0))]) (.blk 0 (.loop c24l1))) (.seq (.reg [qm 40 0,qq 41 (.len (.tmp 40)),qm 2 41,qq 3 (.mv (ki 0))]) .ret)))))
theorem k24:conv Tryz.prog 42 (Tryz.f24.body.getD .skip)=c24:=by kernel_rfl
theorem in24 {a0:Value} {w:World} {R:Value→World→Prop} (h:G Tryz.prog Tryz.f24 42 [.c c24] R (frL 0 [a0]) w):Ret Tryz.prog 24 #[a0] w R:=G.enter (args:=[a0]) Tryz.func24 (c:=Tryz.f24.body.getD .skip) (by kernel_rfl) (by kernel_rfl) (by simp) k24 h
theorem check_spec {v:Value} {l:List Col} {w:World} (hr:Rd w eC v l) (hl2:∀ c∈l,c.name.length≤100000000000):Pu Tryz.prog 24 #[v] w (.tuple #[I (checkM (l.map nkC)).1,I (checkM (l.map nkC)).2]):=by
  refine in24 ?_
  have hS:=Sep.start w
  have hbd:=hr.bd
  repeat' (first|((with_reducible apply G.a);exact rfl)|refine G.reg fun K hK=>?_|(with_reducible (refine hK _ _ ?_);clear hK K)|(have hk:=hK;clear hk;simp (disch:=first|exact dis|fail) only [push_cast,↓reduceIte,zq1,zq2,zq3,zq4,zq5,fct])|(refine zalc ?_;intro gb wb hS)|((with_reducible refine gSt ?_);refine zs2 ?_;intro wb hS)|(refine zmm Value.bool ?_;intro gb wb hS)|(refine G.cn ?_ ?_<;>intro hc<;>first|(with_reducible exact False.elim hc)|(exfalso;omega)|skip))
  · (first|refine G.r1 ?_|refine G.r2 ?_|refine G.r3 ?_|refine G.r0 ?_|refine G.d0 ?_);(try simp (disch:=first|exact dis|fail) only [push_cast,↓reduceIte,zq1,zq2,zq3,zq4,zq5,fct])
    have h0:checkM (l.map nkC)=(0,13):=by simp only [checkM,List.length_map];rw [if_pos (by omega)]
    rw [h0]
    exact ⟨rfl,Sep.xt (by assumption)⟩
  · have h0:checkM (l.map nkC)=checkF [] (l.map nkC):=by simp only [checkM,List.length_map];rw [if_neg (by omega)]
    refine G.loop (fun r w'=>∃ k:Nat,k≤l.length∧r 13=I k∧r 12=I l.length∧r 11=v∧r 0=v∧r 4=.map (some gb)∧checkM (l.map nkC)=checkF ((l.map (·.name)).take k) ((l.map nkC).drop k)∧Sep w w' [mapC gb Value.bool (mbM ((l.map (·.name)).take k))]) (fun r _=>l.length - toN (r 13)) ?_ ?_
    · refine ⟨0,?_⟩
      rw [←mbM_nil] at hS
      ((repeat' apply And.intro)<;>first|exact dj|(simp only [push_cast,↓reduceIte,zq1,zq2,zq3,zq4,zq5]<;>omega)|skip)
    · rintro u wl ⟨k,hk,h13,h12,h11,hu0,h4,e,hS⟩ ih
      by_cases hlt:(k:Int) < l.length
      · have hlen:=hl2 _ (getD_mem l k hlt)
        have hnk:(l.map nkC).drop k=((l.getD k default).name,(l.getD k default).kind) :: (l.map nkC).drop (k+1):=mapD nkC l k hlt
        have htk:=mapT (·.name) l k hlt
        have hll:=mapL (·.name) l k hk
        rw [hnk,checkF_cons,hll] at e
        (have fct:=(And.intro @h13 (And.intro @h12 (And.intro @h11 (And.intro @hu0 (And.intro @h4 @mbM_get)))));repeat' (first|((with_reducible apply G.a);exact rfl)|refine G.reg fun K hK=>?_|(with_reducible (refine hK _ _ ?_);clear hK K)|(have hk:=hK;clear hk;simp (disch:=first|exact dis|fail) only [push_cast,↓reduceIte,zq1,zq2,zq3,zq4,zq5,fct])|(refine zalc ?_;intro gb wb hS)|((with_reducible refine gSt ?_);refine zs2 ?_;intro wb hS)|(refine zcp 54 (sword_spec _ _) ?_;intro wb hS)|(refine zcp 55 (valid_spec _ _ (by omega)) ?_;intro wb hS)|(refine zlk ?_)|(refine zmu ?_;intro wb hS)|(refine G.cn ?_ ?_<;>intro hc<;>first|(with_reducible exact False.elim hc)|(exfalso;omega)|skip)))<;>(try clear fct)
        · (have fct:=(And.intro @h13 (And.intro @h12 (And.intro @h11 (And.intro @hu0 @h4))));(first|refine G.r1 ?_|refine G.r2 ?_|refine G.r3 ?_|refine G.r0 ?_|refine G.d0 ?_);(try simp (disch:=first|exact dis|fail) only [push_cast,↓reduceIte,zq1,zq2,zq3,zq4,zq5,fct]);(try clear fct))
          (refine ⟨?_,Sep.xt (by assumption)⟩)
          rw [if_neg ((wordM_nil _).1 hc)] at e
          rw [e]
        · (have fct:=(And.intro @h13 (And.intro @h12 (And.intro @h11 (And.intro @hu0 @h4))));(first|refine G.r1 ?_|refine G.r2 ?_|refine G.r3 ?_|refine G.r0 ?_|refine G.d0 ?_);(try simp (disch:=first|exact dis|fail) only [push_cast,↓reduceIte,zq1,zq2,zq3,zq4,zq5,fct]);(try clear fct))
          (refine ⟨?_,Sep.xt (by assumption)⟩)
          rw [if_pos (by have:=mt (wordM_nil _).2 ‹_›;omega),if_neg (by rw [hc];simp)] at e
          rw [e]
        · (have fct:=(And.intro @h13 (And.intro @h12 (And.intro @h11 (And.intro @hu0 @h4))));(first|refine G.r1 ?_|refine G.r2 ?_|refine G.r3 ?_|refine G.r0 ?_|refine G.d0 ?_);(try simp (disch:=first|exact dis|fail) only [push_cast,↓reduceIte,zq1,zq2,zq3,zq4,zq5,fct]);(try clear fct))
          (refine ⟨?_,Sep.xt (by assumption)⟩)
          rw [if_pos (by have:=mt (wordM_nil _).2 ‹_›;omega),if_pos ‹_›,if_pos hc] at e
          rw [e]
        · rw [mbM_put,←htk] at hS
          rw [if_pos (by have:=mt (wordM_nil _).2 ‹_›;omega),if_pos ‹_›,if_neg (by omega),←htk] at e
          (refine ih _ _ ⟨k+1,?_⟩ ?_;rotate_left;(focus ((simp only [push_cast,↓reduceIte,zq1,zq2,zq3,zq4,zq5,toN_i,h13,h12,h11,hu0,h4]<;>omega)));((repeat' apply And.intro)<;>first|exact dj|(simp only [push_cast,↓reduceIte,zq1,zq2,zq3,zq4,zq5,h13,h12,h11,hu0,h4]<;>omega)|skip))
      · (have fct:=(And.intro @h13 (And.intro @h12 (And.intro @h11 (And.intro @hu0 @h4))));repeat' (first|((with_reducible apply G.a);exact rfl)|refine G.reg fun K hK=>?_|(with_reducible (refine hK _ _ ?_);clear hK K)|(have hk:=hK;clear hk;simp (disch:=first|exact dis|fail) only [push_cast,↓reduceIte,zq1,zq2,zq3,zq4,zq5,fct])|(refine zalc ?_;intro gb wb hS)|((with_reducible refine gSt ?_);refine zs2 ?_;intro wb hS)|(refine G.cn ?_ ?_<;>intro hc<;>first|(with_reducible exact False.elim hc)|(exfalso;omega)|skip)))<;>(try clear fct)
        (have fct:=(And.intro @h13 (And.intro @h12 (And.intro @h11 (And.intro @hu0 @h4))));(first|refine G.r1 ?_|refine G.r2 ?_|refine G.r3 ?_|refine G.r0 ?_|refine G.d0 ?_);(try simp (disch:=first|exact dis|fail) only [push_cast,↓reduceIte,zq1,zq2,zq3,zq4,zq5,fct]);(try clear fct))
        (refine ⟨?_,Sep.xt (by assumption)⟩)
        rw [List.drop_eq_nil_of_le (by simp;omega),List.take_of_length_le (by simp;omega)] at e
        rw [e];simp [checkF]
def c43l1:MC:=(.seq (.reg [qq 10 (.bin .lss (.tmp 9) (.tmp 8))]) (.seq (.cond (.tmp 10) .skip (.exit 0)) (.seq (.blk 1 (.seq (.reg [qq 11 (.adr 3 (.tmp 7) (.tmp 9)),qq 12 (.ld (.some 3) (.tmp 11)),qq 5 (.alc 74 [(S []),(.int .i64 0),(.bool false)]),qn (.st 3 (.tmp 5) (.tmp 12))]) (.seq (.reg [qq 13 (.fad 0 (.tmp 5)),qq 14 (.ld none (.tmp 13)),qq 15 (.fad 1 (.tmp 5)),qq 16 (.ld none (.tmp 15)),qq 17 (.bld [(S []),(.int .i64 0),(.int .i64 0)] [⟨0,⟨1,(.tmp 14)⟩⟩,⟨1,⟨1,(.tmp 16)⟩⟩]),qq 6 (.alc 150 [(S []),(.int .i64 0),(.int .i64 0)]),qn (.st 3 (.tmp 6) (.tmp 17))]) (.seq (.seq (.reg [qq 18 (.fad 2 (.tmp 5)),qq 19 (.ld none (.tmp 18))]) (.cond (.tmp 19) (.reg [qq 20 (.fad 2 (.tmp 6)),qn (.st 1 (.tmp 20) (ki 1))]) .skip)) (.reg [qm 21 3,qq 22 (.ld (.some 3) (.tmp 6)),qq 23 (.bsl 150 [(S []),(.int .i64 0),(.int .i64 0)] 1 [⟨0,⟨3,(.tmp 22)⟩⟩]),qq 24 (.raw (.call ⟨(.builtin .append),#[(.tmp 21),(.tmp 23)],#[55,55]⟩) 55),qm 3 24]))))) (.reg [qq 25 (.bin .add (.tmp 9) (ki 1)),qm 9 25]))))
def c43:MC:=(.seq (.reg [qq 2 (.mv (.const (.slice none 0 0)))]) (.seq (.reg [qq 3 (.mv (.const (.slice none 0 0)))]) (.seq (.seq (.reg [qm 7 0,qq 8 (.len (.tmp 7)),qq 9 (.mv (ki 0))]) (.blk 0 (.loop c43l1))) (.seq (.reg [qm 26 3,qm 2 26]) .ret))))
theorem k43:conv Tryz.prog 27 (Tryz.f43.body.getD .skip)=c43:=by kernel_rfl
theorem in43 {a0:Value} {w:World} {R:Value→World→Prop} (h:G Tryz.prog Tryz.f43 27 [.c c43] R (frL 0 [a0]) w):Ret Tryz.prog 43 #[a0] w R:=G.enter (args:=[a0]) Tryz.func43 (c:=Tryz.f43.body.getD .skip) (by kernel_rfl) (by kernel_rfl) (by simp) k43 h
theorem ref_spec {v:Value} {l:List Col} {w:World} (hr:Rd w eC v l) (hl:l.length≤1000000000):Ret Tryz.prog 43 #[v] w fun v' w'=>Sep w w' [accC v' 150 eR (l.map toR)]:=by
  refine in43 ?_
  have hS:=(Sep.start w).nil 150 eR
  have hbd:=hr.bd
  repeat' (first|((with_reducible apply G.a);exact rfl)|refine G.reg fun K hK=>?_|(with_reducible (refine hK _ _ ?_);clear hK K)|(have hk:=hK;clear hk;simp (disch:=first|exact dis|fail) only [push_cast,↓reduceIte,zq1,zq2,zq3,zq4,zq5,fct])|((first|refine zalc ?_|refine zbsl ?_);intro gb wb hS)|((with_reducible refine gSt ?_);refine zs2 ?_;intro wb hS)|(refine G.cn ?_ ?_<;>intro hc<;>first|(with_reducible exact False.elim hc)|(exfalso;omega)|skip))
  refine G.loop (fun r w'=>∃ (k:Nat) (lv:Value),k≤l.length∧r 9=I k∧r 8=I l.length∧r 7=v∧r 3=lv∧Sep w w' [accC lv 150 eR ((l.map toR).take k)]) (fun r _=>l.length - toN (r 9)) ?_ ?_
  · refine ⟨0,.slice none 0 0,?_⟩
    ((repeat' apply And.intro)<;>first|exact dj|(simp only [push_cast,↓reduceIte,zq1,zq2,zq3,zq4,zq5]<;>omega)|skip)
  · clear hS
    rintro u wl ⟨k,lv,hk,h9,h8,h7,h3,hS⟩ ih
    by_cases hlt:(k:Int) < l.length
    · have htk:=mapT toR l k hlt
      have hll:=mapL toR l k hk
      (have fct:=(And.intro @h9 (And.intro @h8 (And.intro @h7 @h3)));repeat' (first|((with_reducible apply G.a);exact rfl)|refine G.reg fun K hK=>?_|(with_reducible (refine hK _ _ ?_);clear hK K)|(have hk:=hK;clear hk;simp (disch:=first|exact dis|fail) only [push_cast,↓reduceIte,zq1,zq2,zq3,zq4,zq5,fct])|((first|refine zalc ?_|refine zbsl ?_);intro gb wb hS)|((with_reducible refine gSt ?_);refine zs2 ?_;intro wb hS)|(refine G.cn ?_ ?_<;>intro hc<;>first|(with_reducible exact False.elim hc)|(exfalso;omega)|skip)))<;>(try clear fct)
      all_goals
        ((refine zap (y:=toR (l.getD k default)) ?_ (hy:=by simp only [eR_f,toR,hc,↓reduceIte,Bool.false_eq_true]);intro vb wb hS))
        rw [←htk] at hS
        (have fct:=(And.intro @h9 (And.intro @h8 (And.intro @h7 @h3)));repeat' (first|((with_reducible apply G.a);exact rfl)|refine G.reg fun K hK=>?_|(with_reducible (refine hK _ _ ?_);clear hK K)|(have hk:=hK;clear hk;simp (disch:=first|exact dis|fail) only [push_cast,↓reduceIte,zq1,zq2,zq3,zq4,zq5,fct])|((first|refine zalc ?_|refine zbsl ?_);intro gb wb hS)|((with_reducible refine gSt ?_);refine zs2 ?_;intro wb hS)|(refine G.cn ?_ ?_<;>intro hc<;>first|(with_reducible exact False.elim hc)|(exfalso;omega)|skip)))<;>(try clear fct)
        (refine ih _ _ ⟨k+1,vb,?_⟩ ?_;rotate_left;(focus ((simp only [push_cast,↓reduceIte,zq1,zq2,zq3,zq4,zq5,toN_i,h9,h8,h7,h3]<;>omega)));((repeat' apply And.intro)<;>first|exact dj|(simp only [push_cast,↓reduceIte,zq1,zq2,zq3,zq4,zq5,h9,h8,h7,h3]<;>omega)|skip))
    · (have fct:=(And.intro @h9 (And.intro @h8 (And.intro @h7 @h3)));repeat' (first|((with_reducible apply G.a);exact rfl)|refine G.reg fun K hK=>?_|(with_reducible (refine hK _ _ ?_);clear hK K)|(have hk:=hK;clear hk;simp (disch:=first|exact dis|fail) only [push_cast,↓reduceIte,zq1,zq2,zq3,zq4,zq5,fct])|((first|refine zalc ?_|refine zbsl ?_);intro gb wb hS)|((with_reducible refine gSt ?_);refine zs2 ?_;intro wb hS)|(refine G.cn ?_ ?_<;>intro hc<;>first|(with_reducible exact False.elim hc)|(exfalso;omega)|skip)))<;>(try clear fct)
      (have fct:=(And.intro @h9 (And.intro @h8 (And.intro @h7 @h3)));(first|refine G.r1 ?_|refine G.r2 ?_|refine G.r3 ?_|refine G.r0 ?_|refine G.d0 ?_);(try simp (disch:=first|exact dis|fail) only [push_cast,↓reduceIte,zq1,zq2,zq3,zq4,zq5,fct]);(try clear fct))
      rw [List.take_of_length_le (by simp;omega)] at hS
      exact hS
end Go.Proofs.YtjajihaeoolefaaGreatDoor
namespace Go.Proofs.YtjajihaeoolefaaGreatDoor
open Nat renaming reduceAdd→zq1,reduceLeDiff→zq2,reduceEqDiff→zq3,reduceLT→zq4
open Int renaming reduceToNat→zq5
set_option linter.unusedSimpArgs false
set_option linter.unusedVariables false
attribute [local irreducible] SemK UnitK StK AlcK BslK CallK CallV Instr.box Builtin.append_ Instr.makeSlice Instr.makeMap Instr.lookup Instr.mapUpdate Instr.sliceAt convert
open Go.RowKit
def c26l1:MC:=(.seq (.reg [qq 9 (.bin .lss (.tmp 8) (.tmp 7))]) (.seq (.cond (.tmp 9) .skip (.exit 0)) (.seq (.blk 1 (.seq (.reg [qq 10 (.adr 3 (.tmp 6) (.tmp 8)),qq 11 (.ld (.some 3) (.tmp 10)),qq 5 (.alc 74 [(S []),(.int .i64 0),(.bool false)]),qn (.st 3 (.tmp 5) (.tmp 11))]) (.reg [qm 12 3,qq 13 (.fad 0 (.tmp 5)),qq 14 (.ld none (.tmp 13)),qq 15 (.bsl 9 [(S [])] 1 [⟨0,⟨1,(.tmp 14)⟩⟩]),qq 16 (.raw (.call ⟨(.builtin .append),#[(.tmp 12),(.tmp 15)],#[28,28]⟩) 28),qm 3 16]))) (.reg [qq 17 (.bin .add (.tmp 8) (ki 1)),qm 8 17]))))
def c26:MC:=(.seq (.reg [qq 2 (.mv (.const (.slice none 0 0)))]) (.seq (.reg [qq 3 (.mv (.const (.slice none 0 0)))]) (.seq (.seq (.reg [qm 6 0,qq 7 (.len (.tmp 6)),qq 8 (.mv (ki 0))]) (.blk 0 (.loop c26l1))) (.seq (.reg [qm 18 3,qm 2 18]) .ret))))
theorem k26:conv Tryz.prog 19 (Tryz.f26.body.getD .skip)=c26:=by kernel_rfl
theorem in26 {a0:Value} {w:World} {R:Value→World→Prop} (h:G Tryz.prog Tryz.f26 19 [.c c26] R (frL 0 [a0]) w):Ret Tryz.prog 26 #[a0] w R:=G.enter (args:=[a0]) Tryz.func26 (c:=Tryz.f26.body.getD .skip) (by kernel_rfl) (by kernel_rfl) (by simp) k26 h
theorem snames_spec {v:Value} {l:List Col} {w:World} (hr:Rd w eC v l) (hl:l.length≤1000000000):Ret Tryz.prog 26 #[v] w fun v' w'=>Sep w w' [accC v' 9 eS (namesC l)]:=by
  refine in26 ?_
  have hS:=(Sep.start w).nil 9 eS
  have hbd:=hr.bd
  unfold namesC
  repeat' (first|((with_reducible apply G.a);exact rfl)|refine G.reg fun K hK=>?_|(with_reducible (refine hK _ _ ?_);clear hK K)|(have hk:=hK;clear hk;simp (disch:=first|exact dis|fail) only [push_cast,↓reduceIte,zq1,zq2,zq3,zq4,zq5,fct])|((first|refine zalc ?_|refine zbsl ?_);intro gb wb hS)|((with_reducible refine gSt ?_);refine zs2 ?_;intro wb hS)|(refine G.cn ?_ ?_<;>intro hc<;>first|(with_reducible exact False.elim hc)|(exfalso;omega)|skip))
  refine G.loop (fun r w'=>∃ (k:Nat) (lv:Value),k≤l.length∧r 8=I k∧r 7=I l.length∧r 6=v∧r 3=lv∧Sep w w' [accC lv 9 eS ((l.map (·.name)).take k)]) (fun r _=>l.length - toN (r 8)) ?_ ?_
  · refine ⟨0,.slice none 0 0,?_⟩
    ((repeat' apply And.intro)<;>first|exact dj|(simp only [push_cast,↓reduceIte,zq1,zq2,zq3,zq4,zq5]<;>omega)|skip)
  · clear hS
    rintro u wl ⟨k,lv,hk,h8,h7,h6,h3,hS⟩ ih
    by_cases hlt:(k:Int) < l.length
    · have htk:=mapT (·.name) l k hlt
      have hll:=mapL (·.name) l k hk
      (have fct:=(And.intro @h8 (And.intro @h7 (And.intro @h6 @h3)));repeat' (first|((with_reducible apply G.a);exact rfl)|refine G.reg fun K hK=>?_|(with_reducible (refine hK _ _ ?_);clear hK K)|(have hk:=hK;clear hk;simp (disch:=first|exact dis|fail) only [push_cast,↓reduceIte,zq1,zq2,zq3,zq4,zq5,fct])|((first|refine zalc ?_|refine zbsl ?_);intro gb wb hS)|((with_reducible refine gSt ?_);refine zs2 ?_;intro wb hS)|(refine zap ?_;intro vb wb hS)|(refine G.cn ?_ ?_<;>intro hc<;>first|(with_reducible exact False.elim hc)|(exfalso;omega)|skip)))<;>(try clear fct)
      rw [←htk] at hS
      (refine ih _ _ ⟨k+1,vb,?_⟩ ?_;rotate_left;(focus ((simp only [push_cast,↓reduceIte,zq1,zq2,zq3,zq4,zq5,toN_i,h8,h7,h6,h3]<;>omega)));((repeat' apply And.intro)<;>first|exact dj|(simp only [push_cast,↓reduceIte,zq1,zq2,zq3,zq4,zq5,h8,h7,h6,h3]<;>omega)|skip))
    · (have fct:=(And.intro @h8 (And.intro @h7 (And.intro @h6 @h3)));repeat' (first|((with_reducible apply G.a);exact rfl)|refine G.reg fun K hK=>?_|(with_reducible (refine hK _ _ ?_);clear hK K)|(have hk:=hK;clear hk;simp (disch:=first|exact dis|fail) only [push_cast,↓reduceIte,zq1,zq2,zq3,zq4,zq5,fct])|((first|refine zalc ?_|refine zbsl ?_);intro gb wb hS)|((with_reducible refine gSt ?_);refine zs2 ?_;intro wb hS)|(refine G.cn ?_ ?_<;>intro hc<;>first|(with_reducible exact False.elim hc)|(exfalso;omega)|skip)))<;>(try clear fct)
      (have fct:=(And.intro @h8 (And.intro @h7 (And.intro @h6 @h3)));(first|refine G.r1 ?_|refine G.r2 ?_|refine G.r3 ?_|refine G.r0 ?_|refine G.d0 ?_);(try simp (disch:=first|exact dis|fail) only [push_cast,↓reduceIte,zq1,zq2,zq3,zq4,zq5,fct]);(try clear fct))
      rw [List.take_of_length_le (by simp;omega)] at hS
      exact hS
end Go.Proofs.YtjajihaeoolefaaGreatDoor
namespace Go.Proofs.YtjajihaeoolefaaGreatDoor
open Nat renaming reduceAdd→zq1,reduceLeDiff→zq2,reduceEqDiff→zq3,reduceLT→zq4
open Int renaming reduceToNat→zq5
set_option linter.unusedSimpArgs false
set_option linter.unusedVariables false
attribute [local irreducible] SemK UnitK StK AlcK BslK CallK CallV Instr.box Builtin.append_ Instr.makeSlice Instr.makeMap Instr.lookup Instr.mapUpdate Instr.sliceAt convert
open Go.RowKit
end Go.Proofs.YtjajihaeoolefaaGreatDoor
namespace Go.Proofs.YtjajihaeoolefaaGreatDoor
open Nat renaming reduceAdd→zq1,reduceLeDiff→zq2,reduceEqDiff→zq3,reduceLT→zq4
open Int renaming reduceToNat→zq5
set_option linter.unusedSimpArgs false
set_option linter.unusedVariables false
open Go.RowKit
end Go.Proofs.YtjajihaeoolefaaGreatDoor
namespace Go.Proofs.YtjajihaeoolefaaGreatDoor
open Nat renaming reduceAdd→zq1,reduceLeDiff→zq2,reduceEqDiff→zq3,reduceLT→zq4
open Int renaming reduceToNat→zq5
set_option linter.unusedSimpArgs false
set_option linter.unusedVariables false
attribute [local irreducible] SemK UnitK StK AlcK BslK CallK CallV Instr.box Builtin.append_ Instr.makeSlice Instr.makeMap Instr.lookup Instr.mapUpdate Instr.sliceAt convert
open Go.RowKit
theorem new_ok {v:Value} {names:List Str} {w:World} (hr:Rd w eS v names) (hl:names.length≤1000000000) (hl2:∀ s∈names,s.length≤100000000000) (hn:(newM names).2=0) :
    Ret Tryz.prog 62 #[v] w fun res w'=>∃ g sv r,res=.tuple #[.pointer (some ⟨g,0,none⟩),I names.length,I 0]∧Sep w w' [boxC g 175 [sv,.map (some r)],accC sv 9 eS names,mapC r I (mtM names)] :=
  (new_spec hr hl hl2).mono fun res w' h=>by
    rcases h with ⟨h,_⟩|⟨_,h⟩
    · exact absurd hn h
    · exact h
theorem new_bad {v:Value} {names:List Str} {w:World} (hr:Rd w eS v names) (hl:names.length≤1000000000) (hl2:∀ s∈names,s.length≤100000000000) (hn:(newM names).2≠0) :
    Pu Tryz.prog 62 #[v] w (.tuple #[.pointer none,I (newM names).1,I (newM names).2]) :=
  (new_spec hr hl hl2).mono fun res w' h=>by
    rcases h with ⟨_,h⟩|⟨h,_⟩
    · exact h
    · exact absurd h hn
end Go.Proofs.YtjajihaeoolefaaGreatDoor
