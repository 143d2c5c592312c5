/- Texts of the proof, joined. -/
import Derived.Test.YtjajihaeoolefaaGreatDoorBW25
import Derived.Test.YtjajihaeoolefaaGreatDoorBY18
namespace Go.Proofs.YtjajihaeoolefaaGreatDoor
open Nat renaming reduceAdd→zq1,reduceLeDiff→zq2,reduceEqDiff→zq3,reduceLT→zq4
open Int renaming reduceToNat→zq5
set_option linter.unusedSimpArgs false
set_option linter.unusedVariables false
attribute [local irreducible] SemK UnitK StK AlcK BslK CallK CallV Instr.box Builtin.append_ Instr.makeSlice Instr.makeMap Instr.lookup Instr.mapUpdate Instr.sliceAt convert
open Go.RowKit
def idxI (x:Int):List Int→Int→Int
  | [],_=>-1
  | y :: r,i=>if x=y then i else idxI x r (i+1)
theorem idxI_mem (x:Int):∀ (l:List Int) (i:Int),0≤i→(0≤idxI x l i↔x∈l)
  | [],i,_=>by simp [idxI]
  | y :: r,i,h=>by
    rw [idxI]
    by_cases e:x=y
    · rw [if_pos e];simp [e,h]
    · rw [if_neg e,idxI_mem x r (i+1) (by omega)];simp [e]
def c71l1:MC:=(.seq (.reg [qq 9 (.bin .lss (.tmp 8) (.tmp 7))]) (.seq (.cond (.tmp 9) .skip (.exit 0)) (.seq (.blk 1 (.seq (.reg [qm 10 8,qm 5 10]) (.seq (.reg [qm 11 1,qm 12 0,qm 13 5,qq 14 (.adr 1 (.tmp 12) (.tmp 13)),qq 15 (.ld none (.tmp 14)),qq 16 (.bin .eql (.tmp 11) (.tmp 15))]) (.cond (.tmp 16) (.seq (.reg [qm 17 5,qm 4 17]) .ret) .skip)))) (.reg [qq 18 (.bin .add (.tmp 8) (ki 1)),qm 8 18]))))
def c71:MC:=(.seq (.reg [qq 4 (.mv (ki 0))]) (.seq (.seq (.reg [qm 6 0,qq 7 (.len (.tmp 6)),qq 8 (.mv (ki 0))]) (.blk 0 (.loop c71l1))) (.seq (.reg [qq 4 (.mv (ki (-1)))]) .ret)))
theorem k71:conv Tryz.prog 19 (Tryz.f71.body.getD .skip)=c71:=by kernel_rfl
theorem in71 {a0 a1:Value} {w:World} {R:Value→World→Prop} (h:G Tryz.prog Tryz.f71 19 [.c c71] R (frL 0 [a0,a1]) w):Ret Tryz.prog 71 #[a0,a1] w R:=G.enter (args:=[a0,a1]) Tryz.func71 (c:=Tryz.f71.body.getD .skip) (by kernel_rfl) (by kernel_rfl) (by simp) k71 h
theorem sidx_spec {v:Value} {l:List Int} {w:World} (x:Int) (hr:Rd w eI v l):Pu Tryz.prog 71 #[v,I x] w (I (idxI x l 0)):=by
  refine in71 ?_
  have hS:=Sep.start w
  have hbd:=hr.bd
  repeat' (first|((with_reducible apply G.a);exact rfl)|refine G.reg fun K hK=>?_|(with_reducible (refine hK _ _ ?_);clear hK K)|(have hk:=hK;clear hk;simp (disch:=first|exact dis|fail) only [push_cast,↓reduceIte,zq1,zq2,zq3,zq4,zq5,fct])|(refine G.cn ?_ ?_<;>intro hc<;>first|(with_reducible exact False.elim hc)|(exfalso;omega)|skip))
  refine G.loop (fun r w'=>∃ k:Nat,k≤l.length∧r 8=I k∧r 7=I l.length∧r 0=v∧r 1=I x∧idxI x l 0=idxI x (l.drop k) k∧Sep w w' []) (fun r _=>l.length - toN (r 8)) ?_ ?_
  · exact ⟨0,Nat.zero_le _,by exact sf,by exact sf,by exact sf,by exact sf,rfl,hS⟩
  · clear hS
    rintro u wl ⟨k,hk,q8,q7,q0,q1,e,hS⟩ ih
    by_cases hlt:(k:Int) < l.length
    · rw [dropD _ _ hlt,idxI] at e
      (have fct:=(And.intro @q8 (And.intro @q7 (And.intro @q0 @q1)));repeat' (first|((with_reducible apply G.a);exact rfl)|refine G.reg fun K hK=>?_|(with_reducible (refine hK _ _ ?_);clear hK K)|(have hk:=hK;clear hk;simp (disch:=first|exact dis|fail) only [push_cast,↓reduceIte,zq1,zq2,zq3,zq4,zq5,fct])|(refine G.cn ?_ ?_<;>intro hc<;>first|(with_reducible exact False.elim hc)|(exfalso;omega)|skip)))<;>(try clear fct)
      · (have fct:=(And.intro @q8 (And.intro @q7 (And.intro @q0 @q1)));(first|refine G.r1 ?_|refine G.r2 ?_|refine G.r3 ?_|refine G.r0 ?_|refine G.d0 ?_);(try simp (disch:=first|exact dis|fail) only [push_cast,↓reduceIte,zq1,zq2,zq3,zq4,zq5,fct]);(try clear fct))
        rw [if_pos (by assumption)] at e
        rw [e]
        (first|exact Sep.xt (by assumption)|exact ⟨rfl,Sep.xt (by assumption)⟩)
      · rw [if_neg (by assumption)] at e
        (refine ih _ _ ⟨k+1,?_⟩ ?_;rotate_left;(focus ((simp only [push_cast,↓reduceIte,zq1,zq2,zq3,zq4,zq5,toN_i,q8,q7,q0,q1]<;>omega)));((repeat' apply And.intro)<;>first|exact dj|(simp only [push_cast,↓reduceIte,zq1,zq2,zq3,zq4,zq5,q8,q7,q0,q1]<;>omega)|skip))
    · (have fct:=(And.intro @q8 (And.intro @q7 (And.intro @q0 @q1)));repeat' (first|((with_reducible apply G.a);exact rfl)|refine G.reg fun K hK=>?_|(with_reducible (refine hK _ _ ?_);clear hK K)|(have hk:=hK;clear hk;simp (disch:=first|exact dis|fail) only [push_cast,↓reduceIte,zq1,zq2,zq3,zq4,zq5,fct])|(refine G.cn ?_ ?_<;>intro hc<;>first|(with_reducible exact False.elim hc)|(exfalso;omega)|skip)))<;>(try clear fct)
      all_goals
        (have fct:=(And.intro @q8 (And.intro @q7 (And.intro @q0 @q1)));(first|refine G.r1 ?_|refine G.r2 ?_|refine G.r3 ?_|refine G.r0 ?_|refine G.d0 ?_);(try simp (disch:=first|exact dis|fail) only [push_cast,↓reduceIte,zq1,zq2,zq3,zq4,zq5,fct]);(try clear fct))
        rw [List.drop_eq_nil_of_le (by omega),idxI] at e
        rw [e]
        (first|exact Sep.xt (by assumption)|exact ⟨rfl,Sep.xt (by assumption)⟩)
def c51:MC:=(.seq (.reg [qq 4 (.mv (kb false))]) (.seq (.reg [qm 5 0,qm 6 1,qq 7 (.call 71 [(.tmp 5),(.tmp 6)]),qq 8 (.bin .geq (.tmp 7) (ki 0)),qm 4 8]) .ret))
theorem k51:conv Tryz.prog 9 (Tryz.f51.body.getD .skip)=c51:=by kernel_rfl
theorem in51 {a0 a1:Value} {w:World} {R:Value→World→Prop} (h:G Tryz.prog Tryz.f51 9 [.c c51] R (frL 0 [a0,a1]) w):Ret Tryz.prog 51 #[a0,a1] w R:=G.enter (args:=[a0,a1]) Tryz.func51 (c:=Tryz.f51.body.getD .skip) (by kernel_rfl) (by kernel_rfl) (by simp) k51 h
theorem scon_spec {v:Value} {l:List Int} {w:World} (x:Int) (hr:Rd w eI v l):Pu Tryz.prog 51 #[v,I x] w (.bool (decide (x∈l))):=by
  refine in51 ?_
  have hS:=Sep.start w
  repeat' (first|((with_reducible apply G.a);exact rfl)|refine G.reg fun K hK=>?_|(with_reducible (refine hK _ _ ?_);clear hK K)|(have hk:=hK;clear hk;simp (disch:=first|exact dis|fail) only [push_cast,↓reduceIte,zq1,zq2,zq3,zq4,zq5,fct])|(refine zcp 71 (sidx_spec x hr) ?_;intro wb hS))
  all_goals
    (first|refine G.r1 ?_|refine G.r2 ?_|refine G.r3 ?_|refine G.r0 ?_|refine G.d0 ?_);(try simp (disch:=first|exact dis|fail) only [push_cast,↓reduceIte,zq1,zq2,zq3,zq4,zq5,fct])
    have h:=idxI_mem x l 0 (Int.le_refl _)
    rw [decide_eq_decide.2 h]
    (first|exact Sep.xt (by assumption)|exact ⟨rfl,Sep.xt (by assumption)⟩)
theorem vcf (c:Col):vC c=.agg #[S c.name,I c.kind,.bool c.null]:=rfl
theorem fnd_plc (l:List Col) (k:Str):fndM l k=(if 0≤atM (l.map (·.name)) k then l.getD (atM (l.map (·.name)) k).toNat default else default,plcM l k,decide (0≤atM (l.map (·.name)) k)):=by
  unfold fndM plcM namesC
  by_cases h:0≤atM (l.map (·.name)) k
  · simp [h]
  · simp [h]
def c36l1:MC:=(.seq (.reg [qq 14 (.bin .lss (.tmp 13) (.tmp 12))]) (.seq (.cond (.tmp 14) .skip (.exit 0)) (.seq (.blk 1 (.seq (.reg [qq 15 (.adr 1 (.tmp 11) (.tmp 13)),qq 16 (.ld none (.tmp 15)),qm 7 16]) (.seq (.reg [qm 18 0,qm 19 7,qq 20 (.call 20 [(.tmp 18),(.tmp 19)]),qm 17 20,qq 21 (.ext 0 (.tmp 17)),qq 22 (.ext 1 (.tmp 17)),qq 23 (.ext 2 (.tmp 17)),qq 8 (.alc 74 [(S []),(.int .i64 0),(.bool false)]),qn (.st 3 (.tmp 8) (.tmp 21)),qm 9 22,qm 10 23]) (.reg [qm 24 5,qm 25 9,qq 26 (.bsl 3 [(.int .i64 0)] 1 [⟨0,⟨1,(.tmp 25)⟩⟩]),qq 27 (.raw (.call ⟨(.builtin .append),#[(.tmp 24),(.tmp 26)],#[72,72]⟩) 72),qm 5 27])))) (.reg [qq 28 (.bin .add (.tmp 13) (ki 1)),qm 13 28]))))
def c36:MC:=(.seq (.reg [qq 4 (.mv (.const (.slice none 0 0)))]) (.seq (.reg [qq 5 (.mv (.const (.slice none 0 0)))]) (.seq (.seq (.reg [qm 11 1,qq 12 (.len (.tmp 11)),qq 13 (.mv (ki 0))]) (.blk 0 (.loop c36l1))) (.seq (.reg [qm 29 5,qm 4 29]) .ret))))
theorem k36:conv Tryz.prog 30 (Tryz.f36.body.getD .skip)=c36:=by kernel_rfl
theorem in36 {a0 a1:Value} {w:World} {R:Value→World→Prop} (h:G Tryz.prog Tryz.f36 30 [.c c36] R (frL 0 [a0,a1]) w):Ret Tryz.prog 36 #[a0,a1] w R:=G.enter (args:=[a0,a1]) Tryz.func36 (c:=Tryz.f36.body.getD .skip) (by kernel_rfl) (by kernel_rfl) (by simp) k36 h
theorem pfind_spec {vl vk:Value} {l:List Col} {keys:List Str} {w:World} (h0:Rd w eC vl l) (h1:Rd w eS vk keys) (hl:keys.length≤1000) :
    Ret Tryz.prog 36 #[vl,vk] w fun v w'=>Sep w w' [accC v 3 eI (placesM l keys)]:=by
  refine in36 ?_
  have hS:=(Sep.start w).nil 3 eI
  have hbd:=h1.bd
  repeat' (first|((with_reducible apply G.a);exact rfl)|refine G.reg fun K hK=>?_|(with_reducible (refine hK _ _ ?_);clear hK K)|(have hk:=hK;clear hk;simp (disch:=first|exact dis|fail) only [push_cast,↓reduceIte,zq1,zq2,zq3,zq4,zq5,fct])|((first|refine zalc ?_|refine zbsl ?_);intro gb wb hS)|((with_reducible refine gSt ?_);refine zs2 ?_;intro wb hS)|(refine G.cn ?_ ?_<;>intro hc<;>first|(with_reducible exact False.elim hc)|(exfalso;omega)|skip))
  refine G.loop (fun r w'=>∃ (k:Nat) (lv:Value),k≤keys.length∧r 13=I k∧r 12=I keys.length∧r 11=vk∧r 0=vl∧r 5=lv∧Sep w w' [accC lv 3 eI (placesM l (keys.take k))]) (fun r _=>keys.length - toN (r 13)) ?_ ?_
  · exact ⟨0,.slice none 0 0,Nat.zero_le _,by exact sf,by exact sf,by exact sf,by exact sf,by exact sf,hS⟩
  · clear hS
    rintro u wl ⟨k,lv,hk,q13,q12,q11,q0,q5,hS⟩ ih
    have hm:toN (u 13)=k:=by rw [q13];simp [toN]
    by_cases hlt:(k:Int) < keys.length
    · have hst:placesM l (keys.take (k+1))=placesM l (keys.take k)++[plcM l (keys.getD k default)]:=by unfold placesM;rw [takeD keys k hlt,List.map_append];rfl
      have hpl:(placesM l (keys.take k)).length=k:=by unfold placesM;rw [List.length_map,List.length_take];omega
      have hfd:=fnd_plc l (keys.getD k default)
      generalize (if 0≤atM (l.map (·.name)) (keys.getD k default) then l.getD (atM (l.map (·.name)) (keys.getD k default)).toNat default else default)=cx at hfd
      generalize hkk:keys.getD k default=key at *
      (have fct:=(And.intro @q13 (And.intro @q12 (And.intro @q11 (And.intro @q0 (And.intro @q5 (And.intro @hkk (And.intro @hfd @vcf)))))));repeat' (first|((with_reducible apply G.a);exact rfl)|refine G.reg fun K hK=>?_|(with_reducible (refine hK _ _ ?_);clear hK K)|(have hk:=hK;clear hk;simp (disch:=first|exact dis|fail) only [push_cast,↓reduceIte,zq1,zq2,zq3,zq4,zq5,fct])|((first|refine zalc ?_|refine zbsl ?_);intro gb wb hS)|((with_reducible refine gSt ?_);refine zs2 ?_;intro wb hS)|(refine zcp 20 (find_spec (h0.ext hS.x) _) ?_;intro wb hS)|(refine zap ?_;intro vb wb hS)|(refine G.cn ?_ ?_<;>intro hc<;>first|(with_reducible exact False.elim hc)|(exfalso;omega)|skip)))<;>(try clear fct)
      all_goals
        have fct:=(And.intro @q13 (And.intro @q12 (And.intro @q11 (And.intro @q0 @q5))));refine ih _ _ ⟨k+1,vb,by omega,by exact sf,by exact sf,by exact sf,by exact sf,by exact sf,?_⟩ ?_
        · rw [hst];exact (Sep.sub hS (by repeat first|exact Sub.rfl'|exact Sub.nil0|(refine Sub.c (by repeat constructor) ?_)|refine Sub.skip ?_))
        · rw [hm];simp only [push_cast,↓reduceIte,zq1,zq2,zq3,zq4,zq5,toN_i,q13,q12,q11,q0,q5];omega
    · (have fct:=(And.intro @q13 (And.intro @q12 (And.intro @q11 (And.intro @q0 @q5))));repeat' (first|((with_reducible apply G.a);exact rfl)|refine G.reg fun K hK=>?_|(with_reducible (refine hK _ _ ?_);clear hK K)|(have hk:=hK;clear hk;simp (disch:=first|exact dis|fail) only [push_cast,↓reduceIte,zq1,zq2,zq3,zq4,zq5,fct])|((first|refine zalc ?_|refine zbsl ?_);intro gb wb hS)|((with_reducible refine gSt ?_);refine zs2 ?_;intro wb hS)|(refine G.cn ?_ ?_<;>intro hc<;>first|(with_reducible exact False.elim hc)|(exfalso;omega)|skip)))<;>(try clear fct)
      all_goals
        (have fct:=(And.intro @q13 (And.intro @q12 (And.intro @q11 (And.intro @q0 @q5))));(first|refine G.r1 ?_|refine G.r2 ?_|refine G.r3 ?_|refine G.r0 ?_|refine G.d0 ?_);(try simp (disch:=first|exact dis|fail) only [push_cast,↓reduceIte,zq1,zq2,zq3,zq4,zq5,fct]);(try clear fct))
        rw [List.take_of_length_le (by omega)] at hS
        exact hS
end Go.Proofs.YtjajihaeoolefaaGreatDoor
namespace Go.Proofs.YtjajihaeoolefaaGreatDoor
open Nat renaming reduceAdd→zq1,reduceLeDiff→zq2,reduceEqDiff→zq3,reduceLT→zq4
open Int renaming reduceToNat→zq5
set_option linter.unusedSimpArgs false
set_option linter.unusedVariables false
attribute [local irreducible] SemK UnitK StK AlcK BslK CallK CallV Instr.box Builtin.append_ Instr.makeSlice Instr.makeMap Instr.lookup Instr.mapUpdate Instr.sliceAt convert
open Go.RowKit
theorem plcM_lt (l:List Col) (k:Str) (h:0≤atM (l.map (·.name)) k):plcM l k=atM (l.map (·.name)) k∧0≤plcM l k∧plcM l k < l.length:=by
  have h2:=atM_lt (l.map (·.name)) k
  rw [List.length_map] at h2
  unfold plcM
  rw [if_pos h]
  omega
theorem nullM_step (r:List Val) (ps:List Int) (k:Nat) (h:(k:Int) < ps.length):nullM r (ps.take (k+1))=(nullM r (ps.take k) || decide ((r.getD (ps.getD k default).toNat default).kind=0)):=by
  unfold nullM
  rw [takeD ps k h,List.any_append]
  simp
theorem nullM_at (r:List Val) (ps:List Int) (k:Nat) (h:(k:Int) < ps.length) (e:(r.getD (ps.getD k default).toNat default).kind=0):nullM r ps=true:=by
  unfold nullM
  exact List.any_eq_true.2 ⟨_,getD_mem ps k h,by simpa using e⟩
def c19l1:MC:=(.seq (.reg [qq 35 (.bin .lss (.tmp 34) (.tmp 33))]) (.seq (.cond (.tmp 35) .skip (.exit 0)) (.seq (.blk 1 (.seq (.reg [qm 36 34,qq 37 (.adr 1 (.tmp 32) (.tmp 34)),qq 38 (.ld none (.tmp 37)),qm 9 36,qm 10 38]) (.seq (.reg [qq 40 (.fad 0 (.tmp 2)),qq 41 (.ld none (.tmp 40)),qm 42 10,qq 43 (.call 20 [(.tmp 41),(.tmp 42)]),qm 39 43,qq 44 (.ext 0 (.tmp 39)),qq 45 (.ext 1 (.tmp 39)),qq 46 (.ext 2 (.tmp 39)),qq 11 (.alc 74 [(S []),(.int .i64 0),(.bool false)]),qn (.st 3 (.tmp 11) (.tmp 44)),qm 12 45,qm 13 46]) (.seq (.seq (.reg [qm 47 13,qq 48 (.un .not (.tmp 47))]) (.cond (.tmp 48) (.seq (.reg [qm 49 9,qm 4 49,qq 5 (.mv (ki 16))]) .ret) .skip)) (.seq (.seq (.reg [qm 50 8,qm 51 12,qq 52 (.call 51 [(.tmp 50),(.tmp 51)])]) (.cond (.tmp 52) (.seq (.reg [qm 53 9,qm 4 53,qq 5 (.mv (ki 15))]) .ret) .skip)) (.reg [qm 54 8,qm 55 12,qq 56 (.bsl 3 [(.int .i64 0)] 1 [⟨0,⟨1,(.tmp 55)⟩⟩]),qq 57 (.raw (.call ⟨(.builtin .append),#[(.tmp 54),(.tmp 56)],#[72,72]⟩) 72),qm 8 57])))))) (.reg [qq 58 (.bin .add (.tmp 34) (ki 1)),qm 34 58]))))
def c19l2:MC:=(.seq (.reg [qq 78 (.bin .lss (.tmp 77) (.tmp 76))]) (.seq (.cond (.tmp 78) .skip (.exit 4)) (.seq (.blk 5 (.seq (.reg [qq 79 (.adr 1 (.tmp 75) (.tmp 77)),qq 80 (.ld none (.tmp 79)),qm 18 80]) (.seq (.reg [qm 81 16,qm 82 18,qq 83 (.adr 4 (.tmp 81) (.tmp 82)),qq 84 (.fad 0 (.tmp 83)),qq 85 (.ld none (.tmp 84)),qq 86 (.bin .eql (.tmp 85) (ki 0))]) (.cond (.tmp 86) (.seq (.reg [qm 87 15,qm 4 87,qq 5 (.mv (ki 20))]) .ret) .skip)))) (.reg [qq 88 (.bin .add (.tmp 77) (ki 1)),qm 77 88]))))
def c19l3:MC:=(.seq (.reg [qq 64 (.bin .lss (.tmp 63) (.tmp 62))]) (.seq (.cond (.tmp 64) .skip (.exit 2)) (.seq (.blk 3 (.seq (.reg [qm 65 63,qq 66 (.adr 1 (.tmp 61) (.tmp 63)),qq 67 (.ld none (.tmp 66)),qm 15 65,qm 16 67]) (.seq (.seq (.reg [qm 68 16,qq 69 (.len (.tmp 68)),qq 70 (.fad 0 (.tmp 2)),qq 71 (.ld none (.tmp 70)),qq 72 (.len (.tmp 71)),qq 73 (.bin .neq (.tmp 69) (.tmp 72))]) (.cond (.tmp 73) (.seq (.reg [qm 74 15,qm 4 74,qq 5 (.mv (ki 10))]) .ret) .skip)) (.seq (.seq (.reg [qm 75 8,qq 76 (.len (.tmp 75)),qq 77 (.mv (ki 0))]) (.blk 4 (.loop c19l2))) (.seq (.reg [qm 89 16,qm 90 8,qq 91 (.call 21 [(.tmp 89),(.tmp 90)]),qm 19 91]) (.seq (.seq (.reg [qm 92 14,qm 93 19,qq 94 (.raw (.lookup 77 (.tmp 92) (.tmp 93) false) 4)]) (.cond (.tmp 94) (.seq (.reg [qm 95 15,qm 4 95,qq 5 (.mv (ki 15))]) .ret) .skip)) (.reg [qm 96 14,qm 97 19,qn (.raw (.mapUpdate 77 (.tmp 96) (.tmp 97) (kb true)) 0)]))))))) (.reg [qq 98 (.bin .add (.tmp 63) (ki 1)),qm 63 98]))))
def c19:MC:=(.seq (.reg [qq 2 (.raw (.box 27 (.tmp 0)) 0),qq 4 (.mv (ki 0)),qq 5 (.mv (ki 0))]) (.seq (.seq (.reg [qq 21 (.fad 0 (.tmp 2)),qq 22 (.ld none (.tmp 21)),qq 23 (.call 24 [(.tmp 22)]),qm 20 23,qq 24 (.ext 0 (.tmp 20)),qq 25 (.ext 1 (.tmp 20)),qm 6 24,qm 7 25]) (.seq (.reg [qm 26 7,qq 27 (.bin .neq (.tmp 26) (ki 0))]) (.cond (.tmp 27) (.seq (.reg [qm 28 7,qq 4 (.mv (ki 0)),qm 5 28]) .ret) .skip))) (.seq (.seq (.reg [qm 29 1,qq 30 (.len (.tmp 29)),qq 31 (.bin .eql (.tmp 30) (ki 0))]) (.cond (.tmp 31) (.seq (.reg [qq 4 (.mv (ki 0)),qq 5 (.mv (ki 13))]) .ret) .skip)) (.seq (.reg [qq 8 (.mv (.const (.slice none 0 0)))]) (.seq (.seq (.reg [qm 32 1,qq 33 (.len (.tmp 32)),qq 34 (.mv (ki 0))]) (.blk 0 (.loop c19l1))) (.seq (.reg [qq 59 (.raw (.makeMap 77 none) 77),qm 14 59]) (.seq (.seq (.reg [qq 60 (.fad 1 (.tmp 2)),qq 61 (.ld none (.tmp 60)),qq 62 (.len (.tmp 61)),qq 63 (.mv (ki 0))]) (.blk 2 (.loop c19l3))) (.seq (.reg [qq 99 (.fad 1 (.tmp 2)),qq 100 (.ld none (.tmp 99)),qq 101 (.len (.tmp 100)),qm 4 101,qq 5 (.mv (ki 0))]) .ret))))))))
theorem k19:conv Tryz.prog 102 (Tryz.f19.body.getD .skip)=c19:=by kernel_rfl
theorem in19 {a0 a1:Value} {w:World} {R:Value→World→Prop} (h:G Tryz.prog Tryz.f19 102 [.c c19] R (frL 0 [a0,a1]) w):Ret Tryz.prog 19 #[a0,a1] w R:=G.enter (args:=[a0,a1]) Tryz.func19 (c:=Tryz.f19.body.getD .skip) (by kernel_rfl) (by kernel_rfl) (by simp) k19 h
set_option maxHeartbeats 1000000 in
theorem dchk_spec {vl vr vk:Value} {l:List Col} {rows:List (List Val)} {keys:List Str} {w:World} (h0:Rd w eC vl l) (h2:RdT w eVal vr rows) (h1:Rd w eS vk keys) (hl:∀ c∈l,c.name.length≤100000000000) (hk1:keys.length≤1000)
    (hf:∀ i,i < rows.length→FineV (rows.getD i [])) (hT:Tab w):Pu Tryz.prog 19 #[.agg #[vl,vr],vk] w (.tuple #[I (dchkM l rows keys).1,I (dchkM l rows keys).2]):=by
  refine in19 ?_
  have hS:=Sep.start w
  have hbd:=h0.bd
  have hbd1:=h1.bd
  obtain ⟨vs,g1,l1,i1⟩:=h2
  have hbd2:=g1.bd
  by_cases hE:(checkM (l.map nkC)).2=0
  rotate_left
  · have hD:dchkM l rows keys=(0,(checkM (l.map nkC)).2):=by unfold dchkM;rw [if_pos hE]
    rw [hD]
    repeat' (first|((with_reducible apply G.a);exact rfl)|refine G.reg fun K hK=>?_|(with_reducible (refine hK _ _ ?_);clear hK K)|(have hk:=hK;clear hk;simp (disch:=first|exact dis|fail) only [push_cast,↓reduceIte,zq1,zq2,zq3,zq4,zq5,fct])|((first|refine zalc ?_|refine zbsl ?_|((with_reducible refine gBox ?_);refine zbox ?_));intro gb wb hS)|((with_reducible refine gSt ?_);refine zs2 ?_;intro wb hS)|(refine zcp 24 (check_spec (h0.ext hS.x) hl) ?_;intro wb hS)|(refine G.cn ?_ ?_<;>intro hc<;>first|(with_reducible exact False.elim hc)|(exfalso;omega)|skip))
    all_goals
      (first|refine G.r1 ?_|refine G.r2 ?_|refine G.r3 ?_|refine G.r0 ?_|refine G.d0 ?_);(try simp (disch:=first|exact dis|fail) only [push_cast,↓reduceIte,zq1,zq2,zq3,zq4,zq5,fct])
      (first|exact Sep.xt (by assumption)|exact ⟨rfl,Sep.xt (by assumption)⟩)
  by_cases hK:(keys.length:Int)=0
  · have hD:dchkM l rows keys=(0,13):=by unfold dchkM;rw [if_neg (not_not_intro hE),if_pos (by omega)]
    rw [hD]
    (have fct:=(And.intro @hE @hK);repeat' (first|((with_reducible apply G.a);exact rfl)|refine G.reg fun K hK=>?_|(with_reducible (refine hK _ _ ?_);clear hK K)|(have hk:=hK;clear hk;simp (disch:=first|exact dis|fail) only [push_cast,↓reduceIte,zq1,zq2,zq3,zq4,zq5,fct])|((first|refine zalc ?_|refine zbsl ?_|((with_reducible refine gBox ?_);refine zbox ?_));intro gb wb hS)|((with_reducible refine gSt ?_);refine zs2 ?_;intro wb hS)|(refine zcp 24 (check_spec (h0.ext hS.x) hl) ?_;intro wb hS)|(refine G.cn ?_ ?_<;>intro hc<;>first|(with_reducible exact False.elim hc)|(exfalso;omega)|skip)))<;>(try clear fct)
    all_goals
      (first|refine G.r1 ?_|refine G.r2 ?_|refine G.r3 ?_|refine G.r0 ?_|refine G.d0 ?_);(try simp (disch:=first|exact dis|fail) only [push_cast,↓reduceIte,zq1,zq2,zq3,zq4,zq5,fct])
      (first|exact Sep.xt (by assumption)|exact ⟨rfl,Sep.xt (by assumption)⟩)
  have hD:dchkM l rows keys=orE (keysF (l.map (·.name)) keys [] 0) (orE (rowsF l.length (placesM l keys) rows [] 0) (rows.length,0)):=by unfold dchkM;rw [if_neg (not_not_intro hE),if_neg (by omega)]
  rw [hD]
  (have fct:=@hE;repeat' (first|((with_reducible apply G.a);exact rfl)|refine G.reg fun K hK=>?_|(with_reducible (refine hK _ _ ?_);clear hK K)|(have hk:=hK;clear hk;simp (disch:=first|exact dis|fail) only [push_cast,↓reduceIte,zq1,zq2,zq3,zq4,zq5,fct])|((first|refine zalc ?_|refine zbsl ?_|((with_reducible refine gBox ?_);refine zbox ?_));intro gb wb hS)|((with_reducible refine gSt ?_);refine zs2 ?_;intro wb hS)|(refine zcp 24 (check_spec (h0.ext hS.x) hl) ?_;intro wb hS)|(refine G.cn ?_ ?_<;>intro hc<;>first|(with_reducible exact False.elim hc)|(exfalso;omega)|skip)))<;>(try clear fct)
  all_goals
  have hS:=hS.nil 3 eI
  generalize gb=gt at *
  refine G.loop (fun r w'=>∃ (k:Nat) (lv:Value) (ps:List Int),k≤keys.length∧r 34=I k∧r 33=I keys.length∧r 32=vk∧r 2=.pointer (some ⟨gt,0,none⟩)∧r 8=lv∧keysF (l.map (·.name)) keys [] 0=keysF (l.map (·.name)) (keys.drop k) ps k ∧
      ps=placesM l (keys.take k)∧ps.length=k∧(∀ p∈ps,0≤p∧p < l.length)∧Sep w w' [accC lv 3 eI ps,boxC gt 27 [vl,vr]]) (fun r _=>keys.length - toN (r 34)) ?_ ?_
  · exact ⟨0,.slice none 0 0,[],Nat.zero_le _,by exact sf,by exact sf,by exact sf,by exact sf,by exact sf,rfl,rfl,rfl,by simp,(Sep.sub hS (by repeat first|exact Sub.rfl'|exact Sub.nil0|(refine Sub.c (by repeat constructor) ?_)|refine Sub.skip ?_))⟩
  · clear hS
    rintro u wl ⟨k,lv,ps,hk,q34,q33,q32,q2,q8,e,hps,hpl,hpb,hS⟩ ih
    have hm:toN (u 34)=k:=by rw [q34];simp [toN]
    by_cases hlt:(k:Int) < keys.length
    · rw [dropD _ _ hlt,keysF] at e
      have hst:placesM l (keys.take (k+1))=placesM l (keys.take k)++[plcM l (keys.getD k default)]:=by unfold placesM;rw [takeD keys k hlt,List.map_append];rfl
      have hfd:=fnd_plc l (keys.getD k default)
      have hpc:=plcM_lt l (keys.getD k default)
      generalize (if 0≤atM (l.map (·.name)) (keys.getD k default) then l.getD (atM (l.map (·.name)) (keys.getD k default)).toNat default else default)=cx at hfd
      generalize hkk:keys.getD k default=key at *
      by_cases ha:0≤atM (l.map (·.name)) key
      · obtain ⟨p0,p1,p2⟩:=hpc ha
        rw [←p0] at e
        have hdt:decide (0≤atM (l.map (·.name)) key)=true:=decide_eq_true ha
        rw [hdt] at hfd
        rw [if_neg (by omega)] at e
        by_cases hin:plcM l key∈ps
        · have hdi:decide (plcM l key∈ps)=true:=decide_eq_true hin
          rw [if_pos hin] at e
          rw [e]
          (have fct:=(And.intro @q34 (And.intro @q33 (And.intro @q32 (And.intro @q2 (And.intro @q8 (And.intro @hkk (And.intro @hfd (And.intro @vcf @hdi))))))));repeat' (first|((with_reducible apply G.a);exact rfl)|refine G.reg fun K hK=>?_|(with_reducible (refine hK _ _ ?_);clear hK K)|(have hk:=hK;clear hk;simp (disch:=first|exact dis|fail) only [push_cast,↓reduceIte,zq1,zq2,zq3,zq4,zq5,fct])|((first|refine zalc ?_|refine zbsl ?_|((with_reducible refine gBox ?_);refine zbox ?_));intro gb wb hS)|((with_reducible refine gSt ?_);refine zs2 ?_;intro wb hS)|(refine zcp 20 (find_spec (h0.ext hS.x) _) ?_;intro wb hS)|(refine zcp 51 (scon_spec _ (Sep.rd hS (by repeat constructor))) ?_;intro wb hS)|(refine G.cn ?_ ?_<;>intro hc<;>first|(with_reducible exact False.elim hc)|(exfalso;omega)|skip)))<;>(try clear fct)
          all_goals
            (have fct:=(And.intro @q34 (And.intro @q33 (And.intro @q32 (And.intro @q2 @q8))));(first|refine G.r1 ?_|refine G.r2 ?_|refine G.r3 ?_|refine G.r0 ?_|refine G.d0 ?_);(try simp (disch:=first|exact dis|fail) only [push_cast,↓reduceIte,zq1,zq2,zq3,zq4,zq5,fct]);(try clear fct))
            (first|exact Sep.xt (by assumption)|exact ⟨rfl,Sep.xt (by assumption)⟩)
        · have hdi:decide (plcM l key∈ps)=false:=decide_eq_false hin
          rw [if_neg hin] at e
          (have fct:=(And.intro @q34 (And.intro @q33 (And.intro @q32 (And.intro @q2 (And.intro @q8 (And.intro @hkk (And.intro @hfd (And.intro @vcf @hdi))))))));repeat' (first|((with_reducible apply G.a);exact rfl)|refine G.reg fun K hK=>?_|(with_reducible (refine hK _ _ ?_);clear hK K)|(have hk:=hK;clear hk;simp (disch:=first|exact dis|fail) only [push_cast,↓reduceIte,zq1,zq2,zq3,zq4,zq5,fct])|((first|refine zalc ?_|refine zbsl ?_|((with_reducible refine gBox ?_);refine zbox ?_));intro gb wb hS)|((with_reducible refine gSt ?_);refine zs2 ?_;intro wb hS)|(refine zcp 20 (find_spec (h0.ext hS.x) _) ?_;intro wb hS)|(refine zcp 51 (scon_spec _ (Sep.rd hS (by repeat constructor))) ?_;intro wb hS)|(refine zap ?_;intro vb wb hS)|(refine G.cn ?_ ?_<;>intro hc<;>first|(with_reducible exact False.elim hc)|(exfalso;omega)|skip)))<;>(try clear fct)
          all_goals
            have fct:=(And.intro @q34 (And.intro @q33 (And.intro @q32 (And.intro @q2 @q8))));refine ih _ _ ⟨k+1,vb,ps++[plcM l key],by omega,by exact sf,by exact sf,by exact sf,by exact sf,by exact sf,e,by rw [hst,hps],by rw [List.length_append];simp [hpl],?_,(Sep.sub hS (by repeat first|exact Sub.rfl'|exact Sub.nil0|(refine Sub.c (by repeat constructor) ?_)|refine Sub.skip ?_))⟩ ?_
            · intro p hp
              rcases List.mem_append.1 hp with hp|hp
              · exact hpb p hp
              · rw [List.mem_singleton] at hp;rw [hp];exact ⟨p1,p2⟩
            · rw [hm];simp only [push_cast,↓reduceIte,zq1,zq2,zq3,zq4,zq5,toN_i,q34,q33,q32,q2,q8];omega
      · have hdt:decide (0≤atM (l.map (·.name)) key)=false:=decide_eq_false ha
        rw [hdt] at hfd
        rw [if_pos (by omega)] at e
        rw [e]
        (have fct:=(And.intro @q34 (And.intro @q33 (And.intro @q32 (And.intro @q2 (And.intro @q8 (And.intro @hkk (And.intro @hfd @vcf)))))));repeat' (first|((with_reducible apply G.a);exact rfl)|refine G.reg fun K hK=>?_|(with_reducible (refine hK _ _ ?_);clear hK K)|(have hk:=hK;clear hk;simp (disch:=first|exact dis|fail) only [push_cast,↓reduceIte,zq1,zq2,zq3,zq4,zq5,fct])|((first|refine zalc ?_|refine zbsl ?_|((with_reducible refine gBox ?_);refine zbox ?_));intro gb wb hS)|((with_reducible refine gSt ?_);refine zs2 ?_;intro wb hS)|(refine zcp 20 (find_spec (h0.ext hS.x) _) ?_;intro wb hS)|(refine G.cn ?_ ?_<;>intro hc<;>first|(with_reducible exact False.elim hc)|(exfalso;omega)|skip)))<;>(try clear fct)
        all_goals
          (have fct:=(And.intro @q34 (And.intro @q33 (And.intro @q32 (And.intro @q2 @q8))));(first|refine G.r1 ?_|refine G.r2 ?_|refine G.r3 ?_|refine G.r0 ?_|refine G.d0 ?_);(try simp (disch:=first|exact dis|fail) only [push_cast,↓reduceIte,zq1,zq2,zq3,zq4,zq5,fct]);(try clear fct))
          (first|exact Sep.xt (by assumption)|exact ⟨rfl,Sep.xt (by assumption)⟩)
    · have hkk : k = keys.length:=by omega
      rw [List.drop_eq_nil_of_le (by omega),keysF] at e
      rw [List.take_of_length_le (by omega)] at hps
      rw [e,←hps]
      clear ih
      (have fct:=(And.intro @q34 (And.intro @q33 (And.intro @q32 (And.intro @q2 @q8))));repeat' (first|((with_reducible apply G.a);exact rfl)|refine G.reg fun K hK=>?_|(with_reducible (refine hK _ _ ?_);clear hK K)|(have hk:=hK;clear hk;simp (disch:=first|exact dis|fail) only [push_cast,↓reduceIte,zq1,zq2,zq3,zq4,zq5,fct])|((first|refine zalc ?_|refine zbsl ?_|((with_reducible refine gBox ?_);refine zbox ?_));intro gb wb hS)|((with_reducible refine gSt ?_);refine zs2 ?_;intro wb hS)|(refine zmm Value.bool ?_;intro gb wb hS)|(refine G.cn ?_ ?_<;>intro hc<;>first|(with_reducible exact False.elim hc)|(exfalso;omega)|skip)))<;>(try clear fct)
      all_goals
      rw [←mbM_nil] at hS
      generalize gb=gm at *
      refine G.loop (fun r w'=>∃ (k:Nat) (ah:List Str),k≤vs.length∧r 63=I k∧r 62=I vs.length∧r 61=vr∧r 2=.pointer (some ⟨gt,0,none⟩)∧r 8=lv∧r 14=.map (some gm) ∧
          rowsF l.length ps rows [] 0=rowsF l.length ps (rows.drop k) ah k∧Sep w w' [accC lv 3 eI ps,boxC gt 27 [vl,vr],mapC gm Value.bool (mbM ah)]) (fun r _=>vs.length - toN (r 63)) ?_ ?_
      · have fct:=(And.intro @q34 (And.intro @q33 (And.intro @q32 (And.intro @q2 @q8))));exact ⟨0,[],Nat.zero_le _,by exact sf,by exact sf,by exact sf,by exact sf,by exact sf,by exact sf,rfl,(Sep.sub hS (by repeat first|exact Sub.rfl'|exact Sub.nil0|(refine Sub.c (by repeat constructor) ?_)|refine Sub.skip ?_))⟩
      · clear hS q34 q33 q32 q2 q8 hm
        rintro u2 wl2 ⟨k2,ah,hk2,q63,q62,q61,q2,q8,q14,e2,hS⟩ ih
        have hm:toN (u2 63)=k2:=by rw [q63];simp [toN]
        by_cases hlt2:(k2:Int) < vs.length
        · have hkr : (k2:Int) < rows.length:=by omega
          rw [dropD _ _ hkr,rowsF] at e2
          have hrk:=i1 k2 (by omega)
          have hfv:=hf k2 (by omega)
          have hd:rows.getD k2 default=rows.getD k2 []:=rfl
          rw [hd] at e2
          generalize rows.getD k2 []=rk at e2 hrk hfv
          by_cases hw:(rk.length:Int)=l.length
          rotate_left
          · rw [if_pos hw] at e2
            rw [e2]
            have h1k:=g1.ext hS.x
            have hrw:=hrk.ext hS.x
            have h0k:=h0.ext hS.x
            (have fct:=(And.intro @q63 (And.intro @q62 (And.intro @q61 (And.intro @q2 (And.intro @q8 @q14)))));repeat' (first|((with_reducible apply G.a);exact rfl)|refine G.reg fun K hK=>?_|(with_reducible (refine hK _ _ ?_);clear hK K)|(have hk:=hK;clear hk;simp (disch:=first|exact dis|fail) only [push_cast,↓reduceIte,zq1,zq2,zq3,zq4,zq5,fct])|((first|refine zalc ?_|refine zbsl ?_|((with_reducible refine gBox ?_);refine zbox ?_));intro gb wb hS)|((with_reducible refine gSt ?_);refine zs2 ?_;intro wb hS)|(refine G.cn ?_ ?_<;>intro hc<;>first|(with_reducible exact False.elim hc)|(exfalso;omega)|skip)))<;>(try clear fct)
            all_goals
              (have fct:=(And.intro @q63 (And.intro @q62 (And.intro @q61 (And.intro @q2 (And.intro @q8 @q14)))));(first|refine G.r1 ?_|refine G.r2 ?_|refine G.r3 ?_|refine G.r0 ?_|refine G.d0 ?_);(try simp (disch:=first|exact dis|fail) only [push_cast,↓reduceIte,zq1,zq2,zq3,zq4,zq5,fct]);(try clear fct))
              (first|exact Sep.xt (by assumption)|exact ⟨rfl,Sep.xt (by assumption)⟩)
          · rw [if_neg (not_not_intro hw)] at e2
            have hpp:FineP ps rk.length:=⟨by omega,fun p hp=>by have:=hpb p hp;omega⟩
            have h1k:=g1.ext hS.x
            have hrw:=hrk.ext hS.x
            have h0k:=h0.ext hS.x
            (have fct:=(And.intro @q63 (And.intro @q62 (And.intro @q61 (And.intro @q2 (And.intro @q8 @q14)))));repeat' (first|((with_reducible apply G.a);exact rfl)|refine G.reg fun K hK=>?_|(with_reducible (refine hK _ _ ?_);clear hK K)|(have hk:=hK;clear hk;simp (disch:=first|exact dis|fail) only [push_cast,↓reduceIte,zq1,zq2,zq3,zq4,zq5,fct])|((first|refine zalc ?_|refine zbsl ?_|((with_reducible refine gBox ?_);refine zbox ?_));intro gb wb hS)|((with_reducible refine gSt ?_);refine zs2 ?_;intro wb hS)|(refine G.cn ?_ ?_<;>intro hc<;>first|(with_reducible exact False.elim hc)|(exfalso;omega)|skip)))<;>(try clear fct)
            all_goals
            refine G.loop (fun r w'=>∃ j:Nat,j≤ps.length∧r 77=I j∧r 76=I ps.length∧r 75=lv∧r 16=vs.getD k2 default∧r 15=I k2∧r 63=I k2∧r 62=I vs.length∧r 61=vr∧r 2=.pointer (some ⟨gt,0,none⟩)∧r 8=lv∧r 14=.map (some gm) ∧
                nullM rk (ps.take j)=false∧Sep w w' [accC lv 3 eI ps,boxC gt 27 [vl,vr],mapC gm Value.bool (mbM ah)]) (fun r _=>ps.length - toN (r 77)) ?_ ?_
            · have fct:=(And.intro @q63 (And.intro @q62 (And.intro @q61 (And.intro @q2 (And.intro @q8 @q14)))));exact ⟨0,Nat.zero_le _,by exact sf,by exact sf,by exact sf,by exact sf,by exact sf,by exact sf,by exact sf,by exact sf,by exact sf,by exact sf,by exact sf,rfl,hS⟩
            · clear hS q63 q62 q61 q2 q8 q14 h1k hrw h0k
              rintro u3 wl3 ⟨j,hj,q77,q76,q75,q16,q15,q63,q62,q61,q2,q8,q14,en,hS⟩ ih2
              have hm2:toN (u3 77)=j:=by rw [q77];simp [toN]
              have hrw:=hrk.ext hS.x
              by_cases hlj:(j:Int) < ps.length
              · have hns:=nullM_step rk ps j hlj
                have hna:=nullM_at rk ps j hlj
                have hpj:=hpp.2 _ (getD_mem ps j hlj)
                generalize hpq:ps.getD j default=p at *
                obtain ⟨hp0,hp1⟩:=hpj
                by_cases hz:(rk.getD p.toNat default).kind=0
                · rw [if_pos (hna hz)] at e2
                  rw [e2]
                  (have fct:=(And.intro @q77 (And.intro @q76 (And.intro @q75 (And.intro @q16 (And.intro @q15 (And.intro @q63 (And.intro @q62 (And.intro @q61 (And.intro @q2 (And.intro @q8 (And.intro @q14 (And.intro @hpq @hz))))))))))));repeat' (first|((with_reducible apply G.a);exact rfl)|refine G.reg fun K hK=>?_|(with_reducible (refine hK _ _ ?_);clear hK K)|(have hk:=hK;clear hk;simp (disch:=first|exact dis|fail) only [push_cast,↓reduceIte,zq1,zq2,zq3,zq4,zq5,fct])|((first|refine zalc ?_|refine zbsl ?_|((with_reducible refine gBox ?_);refine zbox ?_));intro gb wb hS)|((with_reducible refine gSt ?_);refine zs2 ?_;intro wb hS)|(refine G.cn ?_ ?_<;>intro hc<;>first|(with_reducible exact False.elim hc)|(exfalso;omega)|skip)))<;>(try clear fct)
                  all_goals
                    (have fct:=(And.intro @q77 (And.intro @q76 (And.intro @q75 (And.intro @q16 (And.intro @q15 (And.intro @q63 (And.intro @q62 (And.intro @q61 (And.intro @q2 (And.intro @q8 @q14))))))))));(first|refine G.r1 ?_|refine G.r2 ?_|refine G.r3 ?_|refine G.r0 ?_|refine G.d0 ?_);(try simp (disch:=first|exact dis|fail) only [push_cast,↓reduceIte,zq1,zq2,zq3,zq4,zq5,fct]);(try clear fct))
                    (first|exact Sep.xt (by assumption)|exact ⟨rfl,Sep.xt (by assumption)⟩)
                · rw [en,decide_eq_false hz] at hns
                  (have fct:=(And.intro @q77 (And.intro @q76 (And.intro @q75 (And.intro @q16 (And.intro @q15 (And.intro @q63 (And.intro @q62 (And.intro @q61 (And.intro @q2 (And.intro @q8 (And.intro @q14 @hpq)))))))))));repeat' (first|((with_reducible apply G.a);exact rfl)|refine G.reg fun K hK=>?_|(with_reducible (refine hK _ _ ?_);clear hK K)|(have hk:=hK;clear hk;simp (disch:=first|exact dis|fail) only [push_cast,↓reduceIte,zq1,zq2,zq3,zq4,zq5,fct])|((first|refine zalc ?_|refine zbsl ?_|((with_reducible refine gBox ?_);refine zbox ?_));intro gb wb hS)|((with_reducible refine gSt ?_);refine zs2 ?_;intro wb hS)|(refine G.cn ?_ ?_<;>intro hc<;>first|(with_reducible exact False.elim hc)|(exfalso;omega)|skip)))<;>(try clear fct)
                  all_goals
                    have fct:=(And.intro @q77 (And.intro @q76 (And.intro @q75 (And.intro @q16 (And.intro @q15 (And.intro @q63 (And.intro @q62 (And.intro @q61 (And.intro @q2 (And.intro @q8 @q14))))))))));refine ih2 _ _ ⟨j+1,by omega,by exact sf,by exact sf,by exact sf,by exact sf,by exact sf,by exact sf,by exact sf,by exact sf,by exact sf,by exact sf,by exact sf,hns,hS⟩ ?_
                    rw [hm2];simp only [push_cast,↓reduceIte,zq1,zq2,zq3,zq4,zq5,toN_i,q77,q76,q75,q16,q15,q63,q62,q61,q2,q8,q14];omega
              · rw [List.take_of_length_le (by omega)] at en
                rw [en,if_neg (by simp)] at e2
                have hmk:=fun (w2:World) (hx:Ext w w2) (hp:Rd w2 eI lv ps)=>markv_spec (w:=w2) (hrk.ext hx) hp hfv hpp (hT.ext hx)
                generalize markM tailV rk ps=mk at e2 hmk
                by_cases hin:0≤atM ah mk
                · rw [if_pos hin] at e2
                  rw [e2]
                  have hdi:decide (0≤atM ah mk)=true:=decide_eq_true hin
                  (have fct:=(And.intro @q77 (And.intro @q76 (And.intro @q75 (And.intro @q16 (And.intro @q15 (And.intro @q63 (And.intro @q62 (And.intro @q61 (And.intro @q2 (And.intro @q8 (And.intro @q14 (And.intro @mbM_get @hdi))))))))))));repeat' (first|((with_reducible apply G.a);exact rfl)|refine G.reg fun K hK=>?_|(with_reducible (refine hK _ _ ?_);clear hK K)|(have hk:=hK;clear hk;simp (disch:=first|exact dis|fail) only [push_cast,↓reduceIte,zq1,zq2,zq3,zq4,zq5,fct])|((first|refine zalc ?_|refine zbsl ?_|((with_reducible refine gBox ?_);refine zbox ?_));intro gb wb hS)|((with_reducible refine gSt ?_);refine zs2 ?_;intro wb hS)|(refine zcp 21 (hmk _ hS.x (Sep.rd hS (by repeat constructor))) ?_;intro wb hS)|(refine zlk ?_)|(refine G.cn ?_ ?_<;>intro hc<;>first|(with_reducible exact False.elim hc)|(exfalso;omega)|skip)))<;>(try clear fct)
                  all_goals
                    (have fct:=(And.intro @q77 (And.intro @q76 (And.intro @q75 (And.intro @q16 (And.intro @q15 (And.intro @q63 (And.intro @q62 (And.intro @q61 (And.intro @q2 (And.intro @q8 @q14))))))))));(first|refine G.r1 ?_|refine G.r2 ?_|refine G.r3 ?_|refine G.r0 ?_|refine G.d0 ?_);(try simp (disch:=first|exact dis|fail) only [push_cast,↓reduceIte,zq1,zq2,zq3,zq4,zq5,fct]);(try clear fct))
                    (first|exact Sep.xt (by assumption)|exact ⟨rfl,Sep.xt (by assumption)⟩)
                · rw [if_neg hin] at e2
                  have hdi:decide (0≤atM ah mk)=false:=decide_eq_false hin
                  (have fct:=(And.intro @q77 (And.intro @q76 (And.intro @q75 (And.intro @q16 (And.intro @q15 (And.intro @q63 (And.intro @q62 (And.intro @q61 (And.intro @q2 (And.intro @q8 (And.intro @q14 (And.intro @mbM_get @hdi))))))))))));repeat' (first|((with_reducible apply G.a);exact rfl)|refine G.reg fun K hK=>?_|(with_reducible (refine hK _ _ ?_);clear hK K)|(have hk:=hK;clear hk;simp (disch:=first|exact dis|fail) only [push_cast,↓reduceIte,zq1,zq2,zq3,zq4,zq5,fct])|((first|refine zalc ?_|refine zbsl ?_|((with_reducible refine gBox ?_);refine zbox ?_));intro gb wb hS)|((with_reducible refine gSt ?_);refine zs2 ?_;intro wb hS)|(refine zcp 21 (hmk _ hS.x (Sep.rd hS (by repeat constructor))) ?_;intro wb hS)|(refine zlk ?_)|(refine zmu ?_;intro wb hS)|(refine G.cn ?_ ?_<;>intro hc<;>first|(with_reducible exact False.elim hc)|(exfalso;omega)|skip)))<;>(try clear fct)
                  all_goals
                    rw [mbM_put] at hS
                    have fct:=(And.intro @q77 (And.intro @q76 (And.intro @q75 (And.intro @q16 (And.intro @q15 (And.intro @q63 (And.intro @q62 (And.intro @q61 (And.intro @q2 (And.intro @q8 @q14))))))))));refine ih _ _ ⟨k2+1,ah++[mk],by omega,by exact sf,by exact sf,by exact sf,by exact sf,by exact sf,by exact sf,e2,(Sep.sub hS (by repeat first|exact Sub.rfl'|exact Sub.nil0|(refine Sub.c (by repeat constructor) ?_)|refine Sub.skip ?_))⟩ ?_
                    rw [hm];simp only [push_cast,↓reduceIte,zq1,zq2,zq3,zq4,zq5,toN_i,q77,q76,q75,q16,q15,q63,q62,q61,q2,q8,q14];omega
        · have h0k:=h0.ext hS.x
          rw [List.drop_eq_nil_of_le (by omega),rowsF] at e2
          rw [e2]
          (have fct:=(And.intro @q63 (And.intro @q62 (And.intro @q61 (And.intro @q2 (And.intro @q8 @q14)))));repeat' (first|((with_reducible apply G.a);exact rfl)|refine G.reg fun K hK=>?_|(with_reducible (refine hK _ _ ?_);clear hK K)|(have hk:=hK;clear hk;simp (disch:=first|exact dis|fail) only [push_cast,↓reduceIte,zq1,zq2,zq3,zq4,zq5,fct])|((first|refine zalc ?_|refine zbsl ?_|((with_reducible refine gBox ?_);refine zbox ?_));intro gb wb hS)|((with_reducible refine gSt ?_);refine zs2 ?_;intro wb hS)|(refine G.cn ?_ ?_<;>intro hc<;>first|(with_reducible exact False.elim hc)|(exfalso;omega)|skip)))<;>(try clear fct)
          all_goals
            (have fct:=(And.intro @q63 (And.intro @q62 (And.intro @q61 (And.intro @q2 (And.intro @q8 @q14)))));(first|refine G.r1 ?_|refine G.r2 ?_|refine G.r3 ?_|refine G.r0 ?_|refine G.d0 ?_);(try simp (disch:=first|exact dis|fail) only [push_cast,↓reduceIte,zq1,zq2,zq3,zq4,zq5,fct]);(try clear fct))
            refine ⟨?_,Sep.xt (by assumption)⟩
            rw [l1]
            rfl
end Go.Proofs.YtjajihaeoolefaaGreatDoor
