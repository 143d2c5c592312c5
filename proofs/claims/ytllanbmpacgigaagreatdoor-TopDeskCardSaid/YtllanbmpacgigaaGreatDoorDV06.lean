/- Texts of the proof, joined. -/
import Derived.Test.YtllanbmpacgigaaGreatDoorDW06
import Derived.Test.YtllanbmpacgigaaGreatDoorDW15
namespace Go.Proofs.YtllanbmpacgigaaGreatDoor
open Nat renaming reduceAdd→zq1,reduceLeDiff→zq2,reduceEqDiff→zq3,reduceLT→zq4
open Int renaming reduceToNat→zq5
set_option linter.unusedSimpArgs false
set_option linter.unusedVariables false
attribute [local irreducible] SemK UnitK StK AlcK BslK CallK CallV Instr.box Builtin.append_ Instr.makeSlice Instr.makeMap Instr.lookup Instr.mapUpdate Instr.sliceAt convert
open Go.RowKit
def isArr (P:Program) (t:TypeId) (n:Nat):Option TypeId:=match P.underlying t with
  | some (.array m e)=>if m=n then (match P.info? e,P.underlying e with
    | some i,some (.int _)=>if i.size=1 then some e else none
    | _,_=>none) else none
  | _=>none
theorem idxAK {P:Program} {t:TypeId} {n k:Nat} {i0:Int} {xs:List Value} {w:World} {d:Option Nat} {ρ:Fr} {next:Fr→World→Prop} (h:next (updO ρ d (xs.getD k undef)) w) (hi0:i0=k) (hk:k < n) (hl:xs.length=n) (hT:(isArr P t n).isSome=true):SemK P (Instr.index t (.agg xs.toArray) (I i0)) w d ρ next:=by
  subst hi0
  unfold isArr at hT
  split at hT<;>try (simp at hT;done)
  rename_i m e' hu
  split at hT<;>try (simp at hT;done)
  rename_i hm
  split at hT<;>try (simp at hT;done)
  rename_i i kk hi hue
  split at hT<;>try (simp at hT;done)
  rename_i hs
  subst hm
  have hag:(isAgg e').run P w=.ok false w:=by simp [isAgg,run_underlying hue]
  have hb:(0:Int)≤k∧(k:Int) < (m:Nat):=by omega
  have hg:xs[k]?=some (xs.getD k undef):=by rw [List.getD_eq_getElem?_getD,List.getElem?_eq_getElem (by omega)];rfl
  have hsz:∀ w,(sizeOf e').run P w=.ok 1 w:=fun w=>by simp [sizeOf,typeInfo,hi,hs]
  have hg':xs.toArray[(k:Int).toNat * 1]?=some (xs.getD k undef):=by simpa using hg
  rw [semK_val (v:=xs.getD k undef) (w':=w)]
  · exact h
  · unfold Instr.index
    simp only [Sem.run_bind,asIntOf,Sem.run_pure,Result.andThen_ok,run_underlying hu,hb,and_self,if_true,hsz,part,hag,Bool.false_eq_true,if_false,hg']
def c20l1:MC:=(.seq (.reg [qq 11 (.bin .lss (.tmp 10) (ki 2))]) (.seq (.cond (.tmp 11) .skip (.exit 0)) (.seq (.blk 1 (.seq (.reg [qq 12 (.raw (.index 75 (.tmp 9) (.tmp 10)) 3),qm 4 12]) (.seq (.reg [qm 13 4,qq 14 (.bin .lss (.tmp 13) (ki 0)),qm 15 14,qmf 15 16 4,qf 15 17 (.bin .gtr (.tmp 16) (ki 127)),qq 18 (.pick (.tmp 15) (kb true) (.tmp 17)),qm 19 18,qmf 19 20 4,qf 19 21 (.bin .eql (.tmp 20) (ki 10)),qq 22 (.pick (.tmp 19) (kb true) (.tmp 21)),qm 23 22,qmf 23 24 4,qf 23 25 (.bin .eql (.tmp 24) (ki 13)),qq 26 (.pick (.tmp 23) (kb true) (.tmp 25))]) (.cond (.tmp 26) (.seq (.reg [qq 2 (.mv (kb false))]) .ret) .skip)))) (.reg [qq 27 (.bin .add (.tmp 10) (ki 1)),qm 10 27]))))
def c20:MC:=(.seq (.reg [qq 1 (.raw (.box 44 (.tmp 0)) 0),qq 2 (.mv (kb false))]) (.seq (.seq (.reg [qq 5 (.fad 0 (.tmp 1)),qq 6 (.ld none (.tmp 5)),qq 7 (.fad 1 (.tmp 1)),qq 8 (.ld none (.tmp 7)),qq 9 (.bld [(.int .i64 0),(.int .i64 0)] [⟨0,⟨1,(.tmp 6)⟩⟩,⟨1,⟨1,(.tmp 8)⟩⟩]),qq 10 (.mv (ki 0))]) (.blk 0 (.loop c20l1))) (.seq (.reg [qq 28 (.fad 0 (.tmp 1)),qq 29 (.ld none (.tmp 28)),qq 30 (.fad 1 (.tmp 1)),qq 31 (.ld none (.tmp 30)),qq 32 (.bin .neq (.tmp 29) (.tmp 31)),qm 33 32,qt 33 34 (.fad 2 (.tmp 1)),qt 33 35 (.ld none (.tmp 34)),qt 33 36 (.bin .eql (.tmp 35) (ki 1)),qmt 33 37 36,qf 37 38 (.fad 2 (.tmp 1)),qf 37 39 (.ld none (.tmp 38)),qf 37 40 (.bin .eql (.tmp 39) (ki 2)),qt 33 41 (.pick (.tmp 37) (kb true) (.tmp 40)),qmt 33 42 41,qf 42 43 (.fad 2 (.tmp 1)),qf 42 44 (.ld none (.tmp 43)),qf 42 45 (.bin .eql (.tmp 44) (ki 3)),qt 33 46 (.pick (.tmp 42) (kb true) (.tmp 45)),qq 47 (.pick (.tmp 33) (.tmp 46) (kb false)),qm 2 47]) .ret)))
theorem k20:conv Tryz.prog 48 (Tryz.f20.body.getD .skip)=c20:=by kernel_rfl
theorem in20 {a0:Value} {w:World} {R:Value→World→Prop} (h:G Tryz.prog Tryz.f20 48 [.c c20] R (frL 0 [a0]) w):Ret Tryz.prog 20 #[a0] w R:=G.enter (args:=[a0]) Tryz.func20 (c:=Tryz.f20.body.getD .skip) (by kernel_rfl) (by kernel_rfl) (by simp) k20 h
theorem rightR_spec (d:Dl) (hd:byD d) (w:World):Pu Tryz.prog 20 #[(.agg #[I d.dl,I d.q,I d.e])] w (.bool (rightD d)):=by
  refine in20 ?_
  have hS:=Sep.start w
  obtain ⟨b1,b2,b3,b4⟩:=hd
  repeat' (first|((with_reducible apply G.a);exact rfl)|refine G.reg fun K hK=>?_|(with_reducible (refine hK _ _ ?_);clear hK K)|(have hk:=hK;clear hk;simp (disch:=first|exact dis|fail) only [push_cast,↓reduceIte,zq1,zq2,zq3,zq4,zq5,fct])|(refine brO_n ?_ ?_<;>intro hb hc<;>first|(with_reducible exact False.elim hc)|(exfalso;omega)|(simp only [hb];clear hb))|(((with_reducible refine gBox ?_);refine zbox ?_);intro gb wb hS)|(refine G.cn ?_ ?_<;>intro hc<;>first|(with_reducible exact False.elim hc)|(exfalso;omega)|skip))
  refine G.loop (fun r w'=>∃ k:Nat,k≤2∧r 10=I k∧r 9=.agg #[I d.dl,I d.q]∧r 1=.pointer (some ⟨gb,0,none⟩)∧(1≤k→mayB d.dl=true)∧(2≤k→mayB d.q=true)∧Sep w w' [boxC gb 44 [I d.dl,I d.q,I d.e]]) (fun r _=>2 - toN (r 10)) ?_ ?_
  · refine ⟨0,?_⟩
    ((repeat' apply And.intro)<;>first|exact dj|(simp only [push_cast,↓reduceIte,zq1,zq2,zq3,zq4,zq5]<;>omega)|skip)
    all_goals (intro h;omega)
  · clear hS
    rintro u wl ⟨k,hk,h10,h9,h1,c1,c2,hS⟩ ih
    obtain rfl|rfl|rfl:k=0∨k=1∨k=2:=by omega
    · (have fct:=(And.intro @h10 (And.intro @h9 @h1));repeat' (first|((with_reducible apply G.a);exact rfl)|refine G.reg fun K hK=>?_|(with_reducible (refine hK _ _ ?_);clear hK K)|(have hk:=hK;clear hk;simp (disch:=first|exact dis|fail) only [push_cast,↓reduceIte,zq1,zq2,zq3,zq4,zq5,fct])|(refine brO_n ?_ ?_<;>intro hb hc<;>first|(with_reducible exact False.elim hc)|(exfalso;omega)|(simp only [hb];clear hb))|(((with_reducible refine gBox ?_);refine zbox ?_);intro gb wb hS)|(refine idxAK (k:=0) (n:=2) ?_ (by simp) (by decide) (by rfl) (by kernel_rfl))|(refine G.cn ?_ ?_<;>intro hc<;>first|(with_reducible exact False.elim hc)|(exfalso;omega)|skip)))<;>(try clear fct)
      all_goals first
        | ((have fct:=(And.intro @h10 (And.intro @h9 @h1));(first|refine G.r1 ?_|refine G.r2 ?_|refine G.r3 ?_|refine G.r0 ?_|refine G.d0 ?_);(try simp (disch:=first|exact dis|fail) only [push_cast,↓reduceIte,zq1,zq2,zq3,zq4,zq5,fct]);(try clear fct));refine ⟨?_,Sep.xt (by assumption)⟩;unfold rightD;rw [mayB_f (b:=d.dl) (by omega)];rfl)
        | (refine ih _ _ ⟨1,?_⟩ ?_;rotate_left;(focus ((simp only [push_cast,↓reduceIte,zq1,zq2,zq3,zq4,zq5,toN_i,h10,h9,h1]<;>omega)));((repeat' apply And.intro)<;>first|exact dj|(simp only [push_cast,↓reduceIte,zq1,zq2,zq3,zq4,zq5,h10,h9,h1]<;>omega)|skip)<;>first|(intro _;exact mayB_t (by omega) (by assumption) (by assumption))|(intro h;omega))
    · (have fct:=(And.intro @h10 (And.intro @h9 @h1));repeat' (first|((with_reducible apply G.a);exact rfl)|refine G.reg fun K hK=>?_|(with_reducible (refine hK _ _ ?_);clear hK K)|(have hk:=hK;clear hk;simp (disch:=first|exact dis|fail) only [push_cast,↓reduceIte,zq1,zq2,zq3,zq4,zq5,fct])|(refine brO_n ?_ ?_<;>intro hb hc<;>first|(with_reducible exact False.elim hc)|(exfalso;omega)|(simp only [hb];clear hb))|(((with_reducible refine gBox ?_);refine zbox ?_);intro gb wb hS)|(refine idxAK (k:=1) (n:=2) ?_ (by simp) (by decide) (by rfl) (by kernel_rfl))|(refine G.cn ?_ ?_<;>intro hc<;>first|(with_reducible exact False.elim hc)|(exfalso;omega)|skip)))<;>(try clear fct)
      all_goals first
        | ((have fct:=(And.intro @h10 (And.intro @h9 @h1));(first|refine G.r1 ?_|refine G.r2 ?_|refine G.r3 ?_|refine G.r0 ?_|refine G.d0 ?_);(try simp (disch:=first|exact dis|fail) only [push_cast,↓reduceIte,zq1,zq2,zq3,zq4,zq5,fct]);(try clear fct));refine ⟨?_,Sep.xt (by assumption)⟩;unfold rightD;rw [mayB_f (b:=d.q) (by omega),Bool.and_false];rfl)
        | (refine ih _ _ ⟨2,?_⟩ ?_;rotate_left;(focus ((simp only [push_cast,↓reduceIte,zq1,zq2,zq3,zq4,zq5,toN_i,h10,h9,h1]<;>omega)));((repeat' apply And.intro)<;>first|exact dj|(simp only [push_cast,↓reduceIte,zq1,zq2,zq3,zq4,zq5,h10,h9,h1]<;>omega)|skip)<;>first|(intro _;exact mayB_t (by omega) (by assumption) (by assumption))|(intro _;exact c1 (by omega)))
    · have e:rightD d=(!(decide (d.dl=d.q)) && endB d.e):=by unfold rightD;rw [c1 (by omega),c2 (by omega)];rfl
      rw [e]
      unfold endB
      (have fct:=(And.intro @h10 (And.intro @h9 @h1));repeat' (first|((with_reducible apply G.a);exact rfl)|refine G.reg fun K hK=>?_|(with_reducible (refine hK _ _ ?_);clear hK K)|(have hk:=hK;clear hk;simp (disch:=first|exact dis|fail) only [push_cast,↓reduceIte,zq1,zq2,zq3,zq4,zq5,fct])|(refine brO_n ?_ ?_<;>intro hb hc<;>first|(with_reducible exact False.elim hc)|(exfalso;omega)|(simp only [hb];clear hb))|(((with_reducible refine gBox ?_);refine zbox ?_);intro gb wb hS)|(refine G.cn ?_ ?_<;>intro hc<;>first|(with_reducible exact False.elim hc)|(exfalso;omega)|skip)))<;>(try clear fct)
      all_goals
        (have fct:=(And.intro @h10 (And.intro @h9 @h1));(first|refine G.r1 ?_|refine G.r2 ?_|refine G.r3 ?_|refine G.r0 ?_|refine G.d0 ?_);(try simp (disch:=first|exact dis|fail) only [push_cast,↓reduceIte,zq1,zq2,zq3,zq4,zq5,fct]);(try clear fct))
        refine ⟨?_,Sep.xt (by assumption)⟩
        clear hS
        congr 1
        rw [Bool.eq_iff_iff]
        simp_all
def c21:MC:=(.seq (.reg [qq 1 (.raw (.box 39 (.tmp 0)) 0),qq 2 (.alc 44 [(.int .i64 0),(.int .i64 0),(.int .i64 0)])]) (.seq (.reg [qq 3 (.fad 0 (.tmp 1)),qq 4 (.ld none (.tmp 3)),qq 5 (.cvi .i64 (.tmp 4)),qq 6 (.fad 1 (.tmp 1)),qq 7 (.ld none (.tmp 6)),qq 8 (.cvi .i64 (.tmp 7)),qq 9 (.fad 2 (.tmp 1)),qq 10 (.ld none (.tmp 9)),qq 11 (.bld [(.int .i64 0),(.int .i64 0),(.int .i64 0)] [⟨0,⟨1,(.tmp 5)⟩⟩,⟨1,⟨1,(.tmp 8)⟩⟩,⟨2,⟨1,(.tmp 10)⟩⟩]),qn (.st 3 (.tmp 2) (.tmp 11))]) .ret))
theorem k21:conv Tryz.prog 12 (Tryz.f21.body.getD .skip)=c21:=by kernel_rfl
theorem in21 {a0:Value} {w:World} {R:Value→World→Prop} (h:G Tryz.prog Tryz.f21 12 [.c c21] R (frL 0 [a0]) w):Ret Tryz.prog 21 #[a0] w R:=G.enter (args:=[a0]) Tryz.func21 (c:=Tryz.f21.body.getD .skip) (by kernel_rfl) (by kernel_rfl) (by simp) k21 h
theorem refD_spec (d:Dl) (hd:byD d) (w:World):Pu Tryz.prog 21 #[(.agg #[U d.dl,U d.q,I d.e])] w (.agg #[I d.dl,I d.q,I d.e]):=by
  refine in21 ?_
  have hS:=Sep.start w
  obtain ⟨b1,b2,b3,b4⟩:=hd
  repeat' (first|((with_reducible apply G.a);exact rfl)|refine G.reg fun K hK=>?_|(with_reducible (refine hK _ _ ?_);clear hK K)|(have hk:=hK;clear hk;simp (disch:=first|exact dis|fail) only [push_cast,↓reduceIte,zq1,zq2,zq3,zq4,zq5,fct])|((first|refine zalc ?_|((with_reducible refine gBox ?_);refine zbox ?_));intro gb wb hS)|((with_reducible refine gSt ?_);refine zs2 ?_;intro wb hS))
  (first|refine G.r1 ?_|refine G.r2 ?_|refine G.r3 ?_|refine G.r0 ?_|refine G.d0 ?_);(try simp (disch:=first|exact dis|fail) only [push_cast,↓reduceIte,zq1,zq2,zq3,zq4,zq5,fct])
  (first|exact Sep.xt (by assumption)|exact ⟨rfl,Sep.xt (by assumption)⟩)
def stripM (s:Str):Str:=if s.take 3=[239,187,191] then s.drop 3 else s
def c87:MC:=(.seq (.reg [qq 2 (.mv (.const (S []))),qq 3 (.mv (kb false))]) (.seq (.reg [qm 4 0,qq 5 (.call 128 [(.tmp 4),(.const (S [239,187,191]))]),qq 6 (.ext 0 (.tmp 5)),qq 7 (.ext 1 (.tmp 5)),qm 2 6,qm 3 7]) .ret))
theorem k87:conv Tryz.prog 8 (Tryz.f87.body.getD .skip)=c87:=by kernel_rfl
theorem in87 {a0:Value} {w:World} {R:Value→World→Prop} (h:G Tryz.prog Tryz.f87 8 [.c c87] R (frL 0 [a0]) w):Ret Tryz.prog 87 #[a0] w R:=G.enter (args:=[a0]) Tryz.func87 (c:=Tryz.f87.body.getD .skip) (by kernel_rfl) (by kernel_rfl) (by simp) k87 h
theorem strip_spec (s:Str) (w:World) (hl:s.length≤1000000000):Pu Tryz.prog 87 #[S s] w (.tuple #[S (stripM s),.bool (decide (s.take 3=[239,187,191]))]):=by
  refine in87 ?_
  have hS:=Sep.start w
  have h:=cutp_spec s [239,187,191] (hl:=hl) (hp:=by decide)
  have e1:(if (s.take ([239,187,191]:Str).length == [239,187,191])=true then s.drop ([239,187,191]:Str).length else s)=stripM s:=by
    unfold stripM;by_cases h:s.take 3=[239,187,191]<;>simp [h]
  have e2:(s.take ([239,187,191]:Str).length == [239,187,191])=decide (s.take 3=[239,187,191]):=by
    rw [Bool.eq_iff_iff];simp
  rw [e1,e2] at h
  repeat' (first|((with_reducible apply G.a);exact rfl)|refine G.reg fun K hK=>?_|(with_reducible (refine hK _ _ ?_);clear hK K)|(have hk:=hK;clear hk;simp (disch:=first|exact dis|fail) only [push_cast,↓reduceIte,zq1,zq2,zq3,zq4,zq5,fct])|(refine zcp 128 (h _) ?_;intro wb hS))
  (first|refine G.r1 ?_|refine G.r2 ?_|refine G.r3 ?_|refine G.r0 ?_|refine G.d0 ?_);(try simp (disch:=first|exact dis|fail) only [push_cast,↓reduceIte,zq1,zq2,zq3,zq4,zq5,fct])
  (first|exact Sep.xt (by assumption)|exact ⟨rfl,Sep.xt (by assumption)⟩)
theorem u8_lit {b c:UInt8} {n:Int} (hn:(c.toNat:Int)=n) (h:(b.toNat:Int)=n):b=c:=UInt8.toNat_inj.1 (by omega)
def c92l1:MC:=(.seq (.seq (.reg [qm 10 5,qm 11 1,qq 12 (.bin .lss (.tmp 10) (.tmp 11))]) (.cond (.tmp 12) .skip (.exit 0))) (.seq (.blk 1 (.seq (.drg [qm 15 0,qm 16 5,qq 17 (.idxS (.tmp 15) (.tmp 16)),qq 18 (.bld [(.int .u8 0),(.int .u8 0),(.int .u8 0)] [⟨0,⟨1,(.const (.int .u8 239))⟩⟩,⟨1,⟨1,(.const (.int .u8 187))⟩⟩,⟨2,⟨1,(.const (.int .u8 191))⟩⟩]),qm 19 5,qq 20 (.raw (.index 203 (.tmp 18) (.tmp 19)) 5),qq 21 (.bin .neq (.tmp 17) (.tmp 20))] (.some (.leaf [qm 15 0,qm 16 5,qq 17 (.idxS (.tmp 15) (.tmp 16)),qq 18 (.bld [(.int .u8 0),(.int .u8 0),(.int .u8 0)] [⟨0,⟨1,(.const (.int .u8 239))⟩⟩,⟨1,⟨1,(.const (.int .u8 187))⟩⟩,⟨2,⟨1,(.const (.int .u8 191))⟩⟩]),qm 19 5,qq 20 (.raw (.index 203 (.tmp 18) (.tmp 19)) 5),qq 21 (.bin .neq (.tmp 17) (.tmp 20))]))) (.cond (.tmp 21) (.seq (.reg [qq 4 (.mv (kb false))]) .ret) .skip))) (.reg [qm 13 5,qq 14 (.bin .add (.tmp 13) (ki 1)),qm 5 14])))
def c92:MC:=(.seq (.reg [qq 4 (.mv (kb false))]) (.seq (.seq (.reg [qm 6 0,qq 7 (.lenS (.tmp 6)),qm 8 1,qq 9 (.bin .lss (.tmp 7) (.tmp 8))]) (.cond (.tmp 9) (.seq (.reg [qq 4 (.mv (kb false))]) .ret) .skip)) (.seq (.seq (.reg [qq 5 (.mv (ki 0))]) (.blk 0 (.loop c92l1))) (.seq (.reg [qq 4 (.mv (kb true))]) .ret))))
theorem k92:conv Tryz.prog 22 (Tryz.f92.body.getD .skip)=c92:=by kernel_rfl
theorem in92 {a0 a1:Value} {w:World} {R:Value→World→Prop} (h:G Tryz.prog Tryz.f92 22 [.c c92] R (frL 0 [a0,a1]) w):Ret Tryz.prog 92 #[a0,a1] w R:=G.enter (args:=[a0,a1]) Tryz.func92 (c:=Tryz.f92.body.getD .skip) (by kernel_rfl) (by kernel_rfl) (by simp) k92 h
theorem has3_spec (s:Str) (w:World) (hl:s.length≤1000000000):Pu Tryz.prog 92 #[S s,I 3] w (.bool (decide (s.take 3=[239,187,191]))):=by
  refine in92 ?_
  have hS:=Sep.start w
  by_cases hlen:(s.length:Int) < 3
  · rw [decide_eq_false (fun e=>by have:=congrArg List.length e;simp at this;omega)]
    repeat' (first|((with_reducible apply G.a);exact rfl)|refine G.reg fun K hK=>?_|(with_reducible (refine hK _ _ ?_);clear hK K)|(with_reducible (refine hK _ ?_);clear hK K;intro wd hxd;have hS:=Sep.xx hxd)|(have hk:=hK;clear hk;simp (disch:=first|exact dis|fail) only [push_cast,↓reduceIte,zq1,zq2,zq3,zq4,zq5,fct])|(refine G.drt mixed fun K hK wd hxd=>?_;have hS:=Sep.xx hxd)|with_reducible refine OT_leaf ?_|refine G.drg mixed fun K hK=>?_|(refine G.cn ?_ ?_<;>intro hc<;>first|(with_reducible exact False.elim hc)|(exfalso;omega)|skip))
    all_goals
      (first|refine G.r1 ?_|refine G.r2 ?_|refine G.r3 ?_|refine G.r0 ?_|refine G.d0 ?_);(try simp (disch:=first|exact dis|fail) only [push_cast,↓reduceIte,zq1,zq2,zq3,zq4,zq5,fct])
      (first|exact Sep.xt (by assumption)|exact ⟨rfl,Sep.xt (by assumption)⟩)
  · match s, hlen with
    | a :: b :: c :: r,hlen =>
      repeat' (first|((with_reducible apply G.a);exact rfl)|refine G.reg fun K hK=>?_|(with_reducible (refine hK _ _ ?_);clear hK K)|(with_reducible (refine hK _ ?_);clear hK K;intro wd hxd;have hS:=Sep.xx hxd)|(have hk:=hK;clear hk;simp (disch:=first|exact dis|fail) only [push_cast,↓reduceIte,zq1,zq2,zq3,zq4,zq5,fct])|(refine G.drt mixed fun K hK wd hxd=>?_;have hS:=Sep.xx hxd)|with_reducible refine OT_leaf ?_|refine G.drg mixed fun K hK=>?_|(refine G.cn ?_ ?_<;>intro hc<;>first|(with_reducible exact False.elim hc)|(exfalso;omega)|skip))
      refine G.loop (fun r' w'=>∃ k:Nat,k≤3∧r' 5=I k∧r' 0=S (a :: b :: c :: r)∧r' 1=I 3∧(1≤k→a=239)∧(2≤k→b=187)∧(3≤k→c=191)∧Sep w w' []) (fun r' _=>3 - toN (r' 5)) ?_ ?_
      · refine ⟨0,?_⟩
        ((repeat' apply And.intro)<;>first|exact dj|(simp only [push_cast,↓reduceIte,zq1,zq2,zq3,zq4,zq5]<;>omega)|skip)
        all_goals (intro h;omega)
      · clear hS
        rintro u wl ⟨k,hk,h5,q0,q1,c1,c2,c3,hS⟩ ih
        obtain rfl|rfl|rfl|rfl:k=0∨k=1∨k=2∨k=3:=by omega
        · (have fct:=(And.intro @h5 (And.intro @q0 @q1));repeat' (first|((with_reducible apply G.a);exact rfl)|refine G.reg fun K hK=>?_|(with_reducible (refine hK _ _ ?_);clear hK K)|(with_reducible (refine hK _ ?_);clear hK K;intro wd hxd;have hS:=Sep.xx hxd)|(have hk:=hK;clear hk;simp (disch:=first|exact dis|fail) only [push_cast,↓reduceIte,zq1,zq2,zq3,zq4,zq5,fct])|(refine idxAK (k:=0) (n:=3) ?_ (by simp) (by decide) (by rfl) (by kernel_rfl))|(refine G.drt mixed fun K hK wd hxd=>?_;have hS:=Sep.xx hxd)|with_reducible refine OT_leaf ?_|refine G.drg mixed fun K hK=>?_|(refine G.cn ?_ ?_<;>intro hc<;>first|(with_reducible exact False.elim hc)|(exfalso;omega)|skip)))<;>(try clear fct)
          all_goals first
            | ((have fct:=(And.intro @h5 (And.intro @q0 @q1));(first|refine G.r1 ?_|refine G.r2 ?_|refine G.r3 ?_|refine G.r0 ?_|refine G.d0 ?_);(try simp (disch:=first|exact dis|fail) only [push_cast,↓reduceIte,zq1,zq2,zq3,zq4,zq5,fct]);(try clear fct));refine ⟨congrArg Value.bool (decide_eq_false fun e=>?_).symm,Sep.xt (by assumption)⟩;clear hS ih;simp at e;obtain ⟨rfl,rfl,rfl⟩:=e;exact hc rfl)
            | (refine ih _ _ ⟨1,?_⟩ ?_;rotate_left;(focus ((simp only [push_cast,↓reduceIte,zq1,zq2,zq3,zq4,zq5,toN_i,h5,q0,q1]<;>omega)));((repeat' apply And.intro)<;>first|exact dj|(simp only [push_cast,↓reduceIte,zq1,zq2,zq3,zq4,zq5,h5,q0,q1]<;>omega)|skip)<;>first|(intro _;exact u8_lit (c:=239) rfl (by assumption))|(intro h;omega))
        · (have fct:=(And.intro @h5 (And.intro @q0 @q1));repeat' (first|((with_reducible apply G.a);exact rfl)|refine G.reg fun K hK=>?_|(with_reducible (refine hK _ _ ?_);clear hK K)|(with_reducible (refine hK _ ?_);clear hK K;intro wd hxd;have hS:=Sep.xx hxd)|(have hk:=hK;clear hk;simp (disch:=first|exact dis|fail) only [push_cast,↓reduceIte,zq1,zq2,zq3,zq4,zq5,fct])|(refine idxAK (k:=1) (n:=3) ?_ (by simp) (by decide) (by rfl) (by kernel_rfl))|(refine G.drt mixed fun K hK wd hxd=>?_;have hS:=Sep.xx hxd)|with_reducible refine OT_leaf ?_|refine G.drg mixed fun K hK=>?_|(refine G.cn ?_ ?_<;>intro hc<;>first|(with_reducible exact False.elim hc)|(exfalso;omega)|skip)))<;>(try clear fct)
          all_goals first
            | ((have fct:=(And.intro @h5 (And.intro @q0 @q1));(first|refine G.r1 ?_|refine G.r2 ?_|refine G.r3 ?_|refine G.r0 ?_|refine G.d0 ?_);(try simp (disch:=first|exact dis|fail) only [push_cast,↓reduceIte,zq1,zq2,zq3,zq4,zq5,fct]);(try clear fct));refine ⟨congrArg Value.bool (decide_eq_false fun e=>?_).symm,Sep.xt (by assumption)⟩;clear hS ih;simp at e;obtain ⟨rfl,rfl,rfl⟩:=e;exact hc rfl)
            | (refine ih _ _ ⟨2,?_⟩ ?_;rotate_left;(focus ((simp only [push_cast,↓reduceIte,zq1,zq2,zq3,zq4,zq5,toN_i,h5,q0,q1]<;>omega)));((repeat' apply And.intro)<;>first|exact dj|(simp only [push_cast,↓reduceIte,zq1,zq2,zq3,zq4,zq5,h5,q0,q1]<;>omega)|skip)<;>first|(intro _;exact c1 (by omega))|(intro _;exact u8_lit (c:=187) rfl (by assumption))|(intro h;omega))
        · (have fct:=(And.intro @h5 (And.intro @q0 @q1));repeat' (first|((with_reducible apply G.a);exact rfl)|refine G.reg fun K hK=>?_|(with_reducible (refine hK _ _ ?_);clear hK K)|(with_reducible (refine hK _ ?_);clear hK K;intro wd hxd;have hS:=Sep.xx hxd)|(have hk:=hK;clear hk;simp (disch:=first|exact dis|fail) only [push_cast,↓reduceIte,zq1,zq2,zq3,zq4,zq5,fct])|(refine idxAK (k:=2) (n:=3) ?_ (by simp) (by decide) (by rfl) (by kernel_rfl))|(refine G.drt mixed fun K hK wd hxd=>?_;have hS:=Sep.xx hxd)|with_reducible refine OT_leaf ?_|refine G.drg mixed fun K hK=>?_|(refine G.cn ?_ ?_<;>intro hc<;>first|(with_reducible exact False.elim hc)|(exfalso;omega)|skip)))<;>(try clear fct)
          all_goals first
            | ((have fct:=(And.intro @h5 (And.intro @q0 @q1));(first|refine G.r1 ?_|refine G.r2 ?_|refine G.r3 ?_|refine G.r0 ?_|refine G.d0 ?_);(try simp (disch:=first|exact dis|fail) only [push_cast,↓reduceIte,zq1,zq2,zq3,zq4,zq5,fct]);(try clear fct));refine ⟨congrArg Value.bool (decide_eq_false fun e=>?_).symm,Sep.xt (by assumption)⟩;clear hS ih;simp at e;obtain ⟨rfl,rfl,rfl⟩:=e;exact hc rfl)
            | (refine ih _ _ ⟨3,?_⟩ ?_;rotate_left;(focus ((simp only [push_cast,↓reduceIte,zq1,zq2,zq3,zq4,zq5,toN_i,h5,q0,q1]<;>omega)));((repeat' apply And.intro)<;>first|exact dj|(simp only [push_cast,↓reduceIte,zq1,zq2,zq3,zq4,zq5,h5,q0,q1]<;>omega)|skip)<;>first|(intro _;exact c1 (by omega))|(intro _;exact c2 (by omega))|(intro _;exact u8_lit (c:=191) rfl (by assumption)))
        · rw [c1 (by omega),c2 (by omega),c3 (by omega)]
          (have fct:=(And.intro @h5 (And.intro @q0 @q1));repeat' (first|((with_reducible apply G.a);exact rfl)|refine G.reg fun K hK=>?_|(with_reducible (refine hK _ _ ?_);clear hK K)|(with_reducible (refine hK _ ?_);clear hK K;intro wd hxd;have hS:=Sep.xx hxd)|(have hk:=hK;clear hk;simp (disch:=first|exact dis|fail) only [push_cast,↓reduceIte,zq1,zq2,zq3,zq4,zq5,fct])|(refine G.drt mixed fun K hK wd hxd=>?_;have hS:=Sep.xx hxd)|with_reducible refine OT_leaf ?_|refine G.drg mixed fun K hK=>?_|(refine G.cn ?_ ?_<;>intro hc<;>first|(with_reducible exact False.elim hc)|(exfalso;omega)|skip)))<;>(try clear fct)
          all_goals
            (have fct:=(And.intro @h5 (And.intro @q0 @q1));(first|refine G.r1 ?_|refine G.r2 ?_|refine G.r3 ?_|refine G.r0 ?_|refine G.d0 ?_);(try simp (disch:=first|exact dis|fail) only [push_cast,↓reduceIte,zq1,zq2,zq3,zq4,zq5,fct]);(try clear fct))
            first|(first|exact Sep.xt (by assumption)|exact ⟨rfl,Sep.xt (by assumption)⟩)|(refine ⟨?_,Sep.xt (by assumption)⟩;simp)
    | [],hlen=>exact absurd (by simp) hlen
    | [_],hlen=>exact absurd (by simp) hlen
    | [_,_],hlen=>exact absurd (by simp) hlen
end Go.Proofs.YtllanbmpacgigaaGreatDoor
namespace Go.Proofs.YtllanbmpacgigaaGreatDoor
open Nat renaming reduceAdd→zq1,reduceLeDiff→zq2,reduceEqDiff→zq3,reduceLT→zq4
open Int renaming reduceToNat→zq5
set_option linter.unusedSimpArgs false
set_option linter.unusedVariables false
attribute [local irreducible] SemK UnitK StK AlcK BslK CallK CallV Instr.box Builtin.append_ Instr.makeSlice Instr.makeMap Instr.lookup Instr.mapUpdate Instr.sliceAt convert
open Go.RowKit
def MkS (w0 w:World) (g:Nat) (l:Lm) (m:Mk) (M:List Chk):Prop:=∃ fv rv,Sep w0 w (boxC g 192 [I l.F,I l.N,I l.R,.bool l.U,fv,rv,I m.bg,I m.ct,I m.wd,I 0] :: accC fv 5 eU m.fl :: accC rv 9 eS m.rc :: M)
theorem MkS.of {w0 w:World} {g:Nat} {l:Lm} {m:Mk} {fv rv:Value} {L L1 L2 L3:List Chk} (hS:Sep w0 w L)
    (h1:Ex (boxC g 192 [I l.F,I l.N,I l.R,.bool l.U,fv,rv,I m.bg,I m.ct,I m.wd,I 0]) L L1) (h2:Ex (accC fv 5 eU m.fl) L1 L2) (h3:Ex (accC rv 9 eS m.rc) L2 L3):MkS w0 w g l m L3 :=
  ⟨fv,rv,Sep.sub hS (.c h1 (.c h2 (.c h3 Sub.rfl')))⟩
def bdM (n:Nat) (m:Mk):Prop:=m.fl.length≤n∧m.rc.length≤n∧m.bg≤n∧m.ct≤n
def okEv (e:Ev):Prop:=(e.b=false∧e.a=false∧e.f=false∧e.l=false)∨(e.b=true∧e.a=false∧e.f=false∧e.l=false)∨(e.b=true∧e.a=false∧e.f=true∧e.l=false)
  ∨ (e.b=true∧e.a=true∧e.f=false∧e.l=false)∨(e.b=false∧e.a=true∧e.f=false∧e.l=false)∨(e.b=false∧e.a=false∧e.f=true∧e.l=false)∨(e.b=false∧e.a=false∧e.f=false∧e.l=true)
theorem sc_ev (d:Dl) (st:Int) (b:UInt8):okEv (scM d st b).1:=by
  unfold scM startM inM okEv
  repeat' split
  all_goals simp
theorem close_ev (st:Int):okEv (closeM st).1:=by
  unfold closeM okEv
  repeat' split
  all_goals simp
def c194:MC:=(.seq (.drg [qm 2 0,qm 3 0,qq 4 (.nck (.tmp 3)),qq 5 (.fad 5 (.tmp 4)),qq 6 (.ld none (.tmp 5)),qm 7 0,qq 8 (.nck (.tmp 7)),qq 9 (.fad 4 (.tmp 8)),qq 10 (.ld none (.tmp 9)),qq 11 (.b2s (.tmp 10)),qq 12 (.bsl 9 [(S [])] 1 [⟨0,⟨1,(.tmp 11)⟩⟩]),qq 13 (.raw (.call ⟨(.builtin .append),#[(.tmp 6),(.tmp 12)],#[22,22]⟩) 22),qq 14 (.nck (.tmp 2)),qq 15 (.fad 5 (.tmp 14)),qn (.st 1 (.tmp 15) (.tmp 13))] (.some (.br [qm 2 0,qm 3 0,qq 4 (.nck (.tmp 3)),qq 5 (.fad 5 (.tmp 4)),qm 7 0,qq 8 (.nck (.tmp 7)),qq 9 (.fad 4 (.tmp 8))] (.leaf [qq 6 (.ld none (.tmp 5)),qq 10 (.ld none (.tmp 9)),qq 11 (.b2s (.tmp 10)),qq 12 (.bsl 9 [(S [])] 1 [⟨0,⟨1,(.tmp 11)⟩⟩]),qq 13 (.raw (.call ⟨(.builtin .append),#[(.tmp 6),(.tmp 12)],#[22,22]⟩) 22),qq 14 (.nck (.tmp 2)),qq 15 (.fad 5 (.tmp 14)),qn (.st 1 (.tmp 15) (.tmp 13))]) (.br [qq 10 (.ld none (.tmp 9))] (.leaf [qq 6 (.ld none (.tmp 5)),qq 11 (.b2s (.tmp 10)),qq 12 (.bsl 9 [(S [])] 1 [⟨0,⟨1,(.tmp 11)⟩⟩]),qq 13 (.raw (.call ⟨(.builtin .append),#[(.tmp 6),(.tmp 12)],#[22,22]⟩) 22),qq 14 (.nck (.tmp 2)),qq 15 (.fad 5 (.tmp 14)),qn (.st 1 (.tmp 15) (.tmp 13))]) (.br [qq 11 (.b2s (.tmp 10))] (.leaf [qq 6 (.ld none (.tmp 5)),qq 12 (.bsl 9 [(S [])] 1 [⟨0,⟨1,(.tmp 11)⟩⟩]),qq 13 (.raw (.call ⟨(.builtin .append),#[(.tmp 6),(.tmp 12)],#[22,22]⟩) 22),qq 14 (.nck (.tmp 2)),qq 15 (.fad 5 (.tmp 14)),qn (.st 1 (.tmp 15) (.tmp 13))]) (.leaf [qq 12 (.bsl 9 [(S [])] 1 [⟨0,⟨1,(.tmp 11)⟩⟩]),qq 6 (.ld none (.tmp 5)),qq 13 (.raw (.call ⟨(.builtin .append),#[(.tmp 6),(.tmp 12)],#[22,22]⟩) 22),qq 14 (.nck (.tmp 2)),qq 15 (.fad 5 (.tmp 14)),qn (.st 1 (.tmp 15) (.tmp 13))])))))) (.reg [qm 16 0,qm 17 0,qq 18 (.nck (.tmp 17)),qq 19 (.fad 4 (.tmp 18)),qq 20 (.ld none (.tmp 19)),qq 21 (.slV 1 (.tmp 20) none (.some (ki 0))),qq 22 (.nck (.tmp 16)),qq 23 (.fad 4 (.tmp 22)),qn (.st 1 (.tmp 23) (.tmp 21))]))
theorem k194:conv Tryz.prog 24 (Tryz.f194.body.getD .skip)=c194:=by kernel_rfl
theorem in194 {a0:Value} {w:World} {R:Value→World→Prop} (h:G Tryz.prog Tryz.f194 24 [.c c194] R (frL 0 [a0]) w):Ret Tryz.prog 194 #[a0] w R:=G.enter (args:=[a0]) Tryz.func194 (c:=Tryz.f194.body.getD .skip) (by kernel_rfl) (by kernel_rfl) (by simp) k194 h
theorem mput_spec {g:Nat} {l:Lm} {m:Mk} {M:List Chk} {w w0:World} (hM:MkS w0 w g l m M) (hb:bdM 1000000000 m) :
    Ret Tryz.prog 194 #[.pointer (some ⟨g,0,none⟩)] w fun res w'=>res=.tuple #[]∧MkS w0 w' g l m.put M:=by
  refine in194 ?_
  obtain ⟨fv,rv,hS⟩:=hM
  obtain ⟨b1,b2,b3,b4⟩:=hb
  have hr0:=(Sep.rd hS (.t .h)).slh (k:=.i64) (b:=0) (n:=1) rfl (by omega)
  repeat' (first|((with_reducible apply G.a);exact rfl)|refine G.reg fun K hK=>?_|(with_reducible (refine hK _ _ ?_);clear hK K)|(with_reducible (refine hK _ ?_);clear hK K;intro wd hxd;have hS:=Sep.xx hxd)|((first|have hk:=hK|have hk:=hK2);clear hk;simp (disch:=first|exact dis|fail) only [push_cast,↓reduceIte,zq1,zq2,zq3,zq4,zq5,fct])|(refine zbsl ?_;intro gb wb hS)|((with_reducible refine gSt ?_);refine zs2 ?_;intro wb hS)|(refine zap ?_;intro vb wb hS)|(refine G.drt mixed fun K hK wd hxd=>?_;have hS:=Sep.xx hxd)|with_reducible refine OT_leaf ?_|(with_reducible (refine hK2 _ ?_);clear hK2 K2;intro wd hxd;have hS:=Sep.xx hxd)|with_reducible refine OT_br fun K2 hK2=>?_|(refine hK2 _ _ ?_ ?_<;>clear hK2 K2)|refine G.drg mixed fun K hK=>?_)
  all_goals
    refine G.done0 rfl ⟨rfl,_,_,Sep.sub (Sep.cut0 (k:=.i64) (sz:=1) (v:=fv) (E:=eU) (xs:=m.fl) hS (by repeat constructor)) (by repeat first|exact Sub.rfl'|(refine Sub.c (by repeat constructor) ?_)|refine Sub.skip ?_)⟩
def GRes (w0 w':World) (g:Nat) (l:Lm) (M:List Chk) (res:Value):Except Int Mk→Prop
  | .error k=>res=I k∧∃ m',MkS w0 w' g l m' M
  | .ok m'=>res=I 0∧MkS w0 w' g l m' M
theorem Mk.put_fl (m:Mk):m.put.fl=[]:=rfl
theorem Mk.put_rc (m:Mk):m.put.rc=m.rc++[m.fl]:=rfl
theorem Mk.put_bg (m:Mk):m.put.bg=m.bg:=rfl
theorem Mk.put_ct (m:Mk):m.put.ct=m.ct:=rfl
theorem Mk.put_wd (m:Mk):m.put.wd=m.wd:=rfl
def c172:MC:=(.seq (.reg [qq 3 (.raw (.box 197 (.tmp 1)) 0),qq 4 (.mv (ki 0))]) (.seq (.seq (.reg [qq 6 (.fad 0 (.tmp 3)),qq 7 (.ld none (.tmp 6))]) (.cond (.tmp 7) (.seq (.seq (.drg [qm 8 0,qq 9 (.nck (.tmp 8)),qq 10 (.fad 6 (.tmp 9)),qq 11 (.ld none (.tmp 10)),qm 12 0,qq 13 (.nck (.tmp 12)),qq 14 (.fad 0 (.tmp 13)),qq 15 (.fad 2 (.tmp 14)),qq 16 (.ld none (.tmp 15)),qq 17 (.bin .geq (.tmp 11) (.tmp 16))] none) (.cond (.tmp 17) (.seq (.reg [qq 4 (.mv (ki 9))]) .ret) .skip)) (.reg [qm 18 0,qq 19 (.nck (.tmp 18)),qq 20 (.fad 6 (.tmp 19)),qq 21 (.ld none (.tmp 20)),qq 22 (.bin .add (.tmp 21) (ki 1)),qq 23 (.nck (.tmp 18)),qq 24 (.fad 6 (.tmp 23)),qn (.st 1 (.tmp 24) (.tmp 22))])) .skip)) (.seq (.seq (.reg [qq 25 (.fad 1 (.tmp 3)),qq 26 (.ld none (.tmp 25))]) (.cond (.tmp 26) (.seq (.seq (.drg [qm 27 0,qq 28 (.nck (.tmp 27)),qq 29 (.fad 4 (.tmp 28)),qq 30 (.ld none (.tmp 29)),qq 31 (.len (.tmp 30)),qm 32 0,qq 33 (.nck (.tmp 32)),qq 34 (.fad 0 (.tmp 33)),qq 35 (.fad 0 (.tmp 34)),qq 36 (.ld none (.tmp 35)),qq 37 (.bin .geq (.tmp 31) (.tmp 36))] none) (.cond (.tmp 37) (.seq (.reg [qq 4 (.mv (ki 7))]) .ret) .skip)) (.drg [qm 38 0,qm 39 0,qq 40 (.nck (.tmp 39)),qq 41 (.fad 4 (.tmp 40)),qq 42 (.ld none (.tmp 41)),qq 43 (.fad 5 (.tmp 3)),qq 44 (.ld none (.tmp 43)),qq 45 (.bsl 5 [(.int .u8 0)] 1 [⟨0,⟨1,(.tmp 44)⟩⟩]),qq 46 (.raw (.call ⟨(.builtin .append),#[(.tmp 42),(.tmp 45)],#[65,65]⟩) 65),qq 47 (.nck (.tmp 38)),qq 48 (.fad 4 (.tmp 47)),qn (.st 1 (.tmp 48) (.tmp 46))] (.some (.br [qm 38 0,qm 39 0,qq 40 (.nck (.tmp 39)),qq 41 (.fad 4 (.tmp 40)),qq 43 (.fad 5 (.tmp 3))] (.leaf [qq 42 (.ld none (.tmp 41)),qq 44 (.ld none (.tmp 43)),qq 45 (.bsl 5 [(.int .u8 0)] 1 [⟨0,⟨1,(.tmp 44)⟩⟩]),qq 46 (.raw (.call ⟨(.builtin .append),#[(.tmp 42),(.tmp 45)],#[65,65]⟩) 65),qq 47 (.nck (.tmp 38)),qq 48 (.fad 4 (.tmp 47)),qn (.st 1 (.tmp 48) (.tmp 46))]) (.br [qq 44 (.ld none (.tmp 43))] (.leaf [qq 42 (.ld none (.tmp 41)),qq 45 (.bsl 5 [(.int .u8 0)] 1 [⟨0,⟨1,(.tmp 44)⟩⟩]),qq 46 (.raw (.call ⟨(.builtin .append),#[(.tmp 42),(.tmp 45)],#[65,65]⟩) 65),qq 47 (.nck (.tmp 38)),qq 48 (.fad 4 (.tmp 47)),qn (.st 1 (.tmp 48) (.tmp 46))]) (.leaf [qq 45 (.bsl 5 [(.int .u8 0)] 1 [⟨0,⟨1,(.tmp 44)⟩⟩]),qq 42 (.ld none (.tmp 41)),qq 46 (.raw (.call ⟨(.builtin .append),#[(.tmp 42),(.tmp 45)],#[65,65]⟩) 65),qq 47 (.nck (.tmp 38)),qq 48 (.fad 4 (.tmp 47)),qn (.st 1 (.tmp 48) (.tmp 46))])))))) .skip)) (.seq (.reg [qm 49 0,qq 50 (.nck (.tmp 49)),qq 51 (.fad 0 (.tmp 50)),qq 52 (.fad 3 (.tmp 51)),qq 53 (.ld none (.tmp 52)),qm 54 53,qmt 54 55 0,qt 54 56 (.nck (.tmp 55)),qt 54 57 (.fad 7 (.tmp 56)),qt 54 58 (.ld none (.tmp 57)),qt 54 59 (.bin .gtr (.tmp 58) (ki 0)),qq 60 (.pick (.tmp 54) (.tmp 59) (kb false)),qm 5 60]) (.seq (.seq (.reg [qq 61 (.fad 2 (.tmp 3)),qq 62 (.ld none (.tmp 61))]) (.cond (.tmp 62) (.seq (.reg [qm 63 0,qq 64 (.call 194 [(.tmp 63)])]) (.seq (.seq (.drg [qm 65 0,qq 66 (.nck (.tmp 65)),qq 67 (.fad 5 (.tmp 66)),qq 68 (.ld none (.tmp 67)),qq 69 (.len (.tmp 68)),qm 70 0,qq 71 (.nck (.tmp 70)),qq 72 (.fad 0 (.tmp 71)),qq 73 (.fad 1 (.tmp 72)),qq 74 (.ld none (.tmp 73)),qq 75 (.bin .geq (.tmp 69) (.tmp 74))] none) (.cond (.tmp 75) (.seq (.reg [qq 4 (.mv (ki 8))]) .ret) .skip)) (.seq (.drg [qm 76 5,qm 77 76,qmt 77 78 0,qt 77 79 (.nck (.tmp 78)),qt 77 80 (.fad 5 (.tmp 79)),qt 77 81 (.ld none (.tmp 80)),qt 77 82 (.len (.tmp 81)),qmt 77 83 0,qt 77 84 (.nck (.tmp 83)),qt 77 85 (.fad 8 (.tmp 84)),qt 77 86 (.ld none (.tmp 85)),qt 77 87 (.bin .eql (.tmp 82) (.tmp 86)),qq 88 (.pick (.tmp 77) (.tmp 87) (kb false))] none) (.cond (.tmp 88) (.seq (.reg [qq 4 (.mv (ki 10))]) .ret) .skip)))) .skip)) (.seq (.seq (.reg [qq 89 (.fad 3 (.tmp 3)),qq 90 (.ld none (.tmp 89))]) (.cond (.tmp 90) (.seq (.reg [qm 91 0,qq 92 (.call 194 [(.tmp 91)])]) (.seq (.drg [qm 93 5,qm 94 93,qmt 94 95 0,qt 94 96 (.nck (.tmp 95)),qt 94 97 (.fad 5 (.tmp 96)),qt 94 98 (.ld none (.tmp 97)),qt 94 99 (.len (.tmp 98)),qmt 94 100 0,qt 94 101 (.nck (.tmp 100)),qt 94 102 (.fad 8 (.tmp 101)),qt 94 103 (.ld none (.tmp 102)),qt 94 104 (.bin .neq (.tmp 99) (.tmp 103)),qq 105 (.pick (.tmp 94) (.tmp 104) (kb false))] none) (.cond (.tmp 105) (.seq (.reg [qq 4 (.mv (ki 10))]) .ret) .skip))) .skip)) (.seq (.reg [qq 4 (.mv (ki 0))]) .ret)))))))
theorem k172:conv Tryz.prog 106 (Tryz.f172.body.getD .skip)=c172:=by kernel_rfl
theorem in172 {a0 a1:Value} {w:World} {R:Value→World→Prop} (h:G Tryz.prog Tryz.f172 106 [.c c172] R (frL 0 [a0,a1]) w):Ret Tryz.prog 172 #[a0,a1] w R:=G.enter (args:=[a0,a1]) Tryz.func172 (c:=Tryz.f172.body.getD .skip) (by kernel_rfl) (by kernel_rfl) (by simp) k172 h
section
variable {g:Nat} {l:Lm} {m:Mk} {M:List Chk} {w w0:World} {er:Bool} {ec:UInt8}
theorem ga0 (hM:MkS w0 w g l m M) (hb:bdM 900000000 m):Ret Tryz.prog 172 #[.pointer (some ⟨g,0,none⟩),.agg #[.bool false,.bool false,.bool false,.bool false,.bool er,U ec.toNat]] w fun res w'=>GRes w0 w' g l M res (.ok m):=by
  refine in172 ?_
  obtain ⟨fv,rv,hS⟩:=hM
  obtain ⟨b1,b2,b3,b4⟩:=hb
  repeat' (first|((with_reducible apply G.a);exact rfl)|refine G.reg fun K hK=>?_|(with_reducible (refine hK _ _ ?_);clear hK K)|(with_reducible (refine hK _ ?_);clear hK K;intro wd hxd;have hS:=Sep.xx hxd)|((first|have hk:=hK|have hk:=hK2);clear hk;simp (disch:=first|exact dis|fail) only [push_cast,↓reduceIte,zq1,zq2,zq3,zq4,zq5,fct])|((first|refine brO_n ?_ ?_|refine brQ_n ?_ ?_)<;>intro hb hc<;>first|(with_reducible exact False.elim hc)|(exfalso;omega)|(simp only [hb];clear hb))|((first|refine zalc ?_|refine zbsl ?_|((with_reducible refine gBox ?_);refine zbox ?_));intro gb wb hS)|((with_reducible refine gSt ?_);refine zs2 ?_;intro wb hS)|(refine zcv ?_)|(refine G.drt mixed fun K hK wd hxd=>?_;have hS:=Sep.xx hxd)|with_reducible refine OT_leaf ?_|(with_reducible refine OT_tail fun K2 hK2=>?_)|(with_reducible (refine hK2 _ ?_);clear hK2 K2;intro wd hxd;have hS:=Sep.xx hxd)|with_reducible refine OT_br fun K2 hK2=>?_|(refine hK2 _ _ ?_ ?_<;>clear hK2 K2)|refine G.drg mixed fun K hK=>?_|(refine G.cn ?_ ?_<;>intro hc<;>first|(with_reducible exact False.elim hc)|(exfalso;omega)|skip))
  all_goals
    (first|refine G.r1 ?_|refine G.r2 ?_|refine G.r3 ?_|refine G.r0 ?_|refine G.d0 ?_);(try simp (disch:=first|exact dis|fail) only [push_cast,↓reduceIte,zq1,zq2,zq3,zq4,zq5,fct])
    exact ⟨rfl,_,_,Sep.sub hS (by repeat first|exact Sub.rfl'|(refine Sub.c (by repeat constructor) ?_)|refine Sub.skip ?_)⟩
theorem gaB0 (hM:MkS w0 w g l m M) (hb:bdM 900000000 m) (c1:l.R≤m.bg) (ea ef:Bool):Ret Tryz.prog 172 #[.pointer (some ⟨g,0,none⟩),.agg #[.bool true,.bool ea,.bool ef,.bool false,.bool er,U ec.toNat]] w fun res w'=>GRes w0 w' g l M res (.error 9):=by
  refine in172 ?_
  obtain ⟨fv,rv,hS⟩:=hM
  obtain ⟨b1,b2,b3,b4⟩:=hb
  repeat' (first|((with_reducible apply G.a);exact rfl)|refine G.reg fun K hK=>?_|(with_reducible (refine hK _ _ ?_);clear hK K)|(with_reducible (refine hK _ ?_);clear hK K;intro wd hxd;have hS:=Sep.xx hxd)|((first|have hk:=hK|have hk:=hK2);clear hk;simp (disch:=first|exact dis|fail) only [push_cast,↓reduceIte,zq1,zq2,zq3,zq4,zq5,fct])|((first|refine brO_n ?_ ?_|refine brQ_n ?_ ?_)<;>intro hb hc<;>first|(with_reducible exact False.elim hc)|(exfalso;omega)|(simp only [hb];clear hb))|((first|refine zalc ?_|refine zbsl ?_|((with_reducible refine gBox ?_);refine zbox ?_));intro gb wb hS)|((with_reducible refine gSt ?_);refine zs2 ?_;intro wb hS)|(refine zcv ?_)|(refine G.drt mixed fun K hK wd hxd=>?_;have hS:=Sep.xx hxd)|with_reducible refine OT_leaf ?_|(with_reducible refine OT_tail fun K2 hK2=>?_)|(with_reducible (refine hK2 _ ?_);clear hK2 K2;intro wd hxd;have hS:=Sep.xx hxd)|with_reducible refine OT_br fun K2 hK2=>?_|(refine hK2 _ _ ?_ ?_<;>clear hK2 K2)|refine G.drg mixed fun K hK=>?_|(refine G.cn ?_ ?_<;>intro hc<;>first|(with_reducible exact False.elim hc)|(exfalso;omega)|skip))
  all_goals
    (first|refine G.r1 ?_|refine G.r2 ?_|refine G.r3 ?_|refine G.r0 ?_|refine G.d0 ?_);(try simp (disch:=first|exact dis|fail) only [push_cast,↓reduceIte,zq1,zq2,zq3,zq4,zq5,fct])
    exact ⟨rfl,m,_,_,Sep.sub hS (by repeat first|exact Sub.rfl'|(refine Sub.c (by repeat constructor) ?_)|refine Sub.skip ?_)⟩
theorem gaB1 (hM:MkS w0 w g l m M) (hb:bdM 900000000 m) (c1:¬ l.R≤m.bg):Ret Tryz.prog 172 #[.pointer (some ⟨g,0,none⟩),.agg #[.bool true,.bool false,.bool false,.bool false,.bool er,U ec.toNat]] w fun res w'=>GRes w0 w' g l M res (.ok { m with bg:=m.bg+1 }):=by
  refine in172 ?_
  obtain ⟨fv,rv,hS⟩:=hM
  obtain ⟨b1,b2,b3,b4⟩:=hb
  repeat' (first|((with_reducible apply G.a);exact rfl)|refine G.reg fun K hK=>?_|(with_reducible (refine hK _ _ ?_);clear hK K)|(with_reducible (refine hK _ ?_);clear hK K;intro wd hxd;have hS:=Sep.xx hxd)|((first|have hk:=hK|have hk:=hK2);clear hk;simp (disch:=first|exact dis|fail) only [push_cast,↓reduceIte,zq1,zq2,zq3,zq4,zq5,fct])|((first|refine brO_n ?_ ?_|refine brQ_n ?_ ?_)<;>intro hb hc<;>first|(with_reducible exact False.elim hc)|(exfalso;omega)|(simp only [hb];clear hb))|((first|refine zalc ?_|refine zbsl ?_|((with_reducible refine gBox ?_);refine zbox ?_));intro gb wb hS)|((with_reducible refine gSt ?_);refine zs2 ?_;intro wb hS)|(refine zcv ?_)|(refine G.drt mixed fun K hK wd hxd=>?_;have hS:=Sep.xx hxd)|with_reducible refine OT_leaf ?_|(with_reducible refine OT_tail fun K2 hK2=>?_)|(with_reducible (refine hK2 _ ?_);clear hK2 K2;intro wd hxd;have hS:=Sep.xx hxd)|with_reducible refine OT_br fun K2 hK2=>?_|(refine hK2 _ _ ?_ ?_<;>clear hK2 K2)|refine G.drg mixed fun K hK=>?_|(refine G.cn ?_ ?_<;>intro hc<;>first|(with_reducible exact False.elim hc)|(exfalso;omega)|skip))
  all_goals
    (first|refine G.r1 ?_|refine G.r2 ?_|refine G.r3 ?_|refine G.r0 ?_|refine G.d0 ?_);(try simp (disch:=first|exact dis|fail) only [push_cast,↓reduceIte,zq1,zq2,zq3,zq4,zq5,fct])
    exact ⟨rfl,_,_,Sep.sub hS (by repeat first|exact Sub.rfl'|(refine Sub.c (by repeat constructor) ?_)|refine Sub.skip ?_)⟩
theorem gaA0 (hM:MkS w0 w g l m M) (hb:bdM 900000000 m) (c1:l.F≤m.fl.length):Ret Tryz.prog 172 #[.pointer (some ⟨g,0,none⟩),.agg #[.bool false,.bool true,.bool false,.bool false,.bool er,U ec.toNat]] w fun res w'=>GRes w0 w' g l M res (.error 7):=by
  refine in172 ?_
  obtain ⟨fv,rv,hS⟩:=hM
  obtain ⟨b1,b2,b3,b4⟩:=hb
  repeat' (first|((with_reducible apply G.a);exact rfl)|refine G.reg fun K hK=>?_|(with_reducible (refine hK _ _ ?_);clear hK K)|(with_reducible (refine hK _ ?_);clear hK K;intro wd hxd;have hS:=Sep.xx hxd)|((first|have hk:=hK|have hk:=hK2);clear hk;simp (disch:=first|exact dis|fail) only [push_cast,↓reduceIte,zq1,zq2,zq3,zq4,zq5,fct])|((first|refine brO_n ?_ ?_|refine brQ_n ?_ ?_)<;>intro hb hc<;>first|(with_reducible exact False.elim hc)|(exfalso;omega)|(simp only [hb];clear hb))|((first|refine zalc ?_|refine zbsl ?_|((with_reducible refine gBox ?_);refine zbox ?_));intro gb wb hS)|((with_reducible refine gSt ?_);refine zs2 ?_;intro wb hS)|(refine zcv ?_)|(refine G.drt mixed fun K hK wd hxd=>?_;have hS:=Sep.xx hxd)|with_reducible refine OT_leaf ?_|(with_reducible refine OT_tail fun K2 hK2=>?_)|(with_reducible (refine hK2 _ ?_);clear hK2 K2;intro wd hxd;have hS:=Sep.xx hxd)|with_reducible refine OT_br fun K2 hK2=>?_|(refine hK2 _ _ ?_ ?_<;>clear hK2 K2)|refine G.drg mixed fun K hK=>?_|(refine G.cn ?_ ?_<;>intro hc<;>first|(with_reducible exact False.elim hc)|(exfalso;omega)|skip))
  all_goals
    (first|refine G.r1 ?_|refine G.r2 ?_|refine G.r3 ?_|refine G.r0 ?_|refine G.d0 ?_);(try simp (disch:=first|exact dis|fail) only [push_cast,↓reduceIte,zq1,zq2,zq3,zq4,zq5,fct])
    exact ⟨rfl,m,_,_,Sep.sub hS (by repeat first|exact Sub.rfl'|(refine Sub.c (by repeat constructor) ?_)|refine Sub.skip ?_)⟩
theorem gaA1 (hM:MkS w0 w g l m M) (hb:bdM 900000000 m) (c1:¬ l.F≤m.fl.length):Ret Tryz.prog 172 #[.pointer (some ⟨g,0,none⟩),.agg #[.bool false,.bool true,.bool false,.bool false,.bool er,U ec.toNat]] w fun res w'=>GRes w0 w' g l M res (.ok { m with fl:=m.fl++[ec] }):=by
  refine in172 ?_
  obtain ⟨fv,rv,hS⟩:=hM
  obtain ⟨b1,b2,b3,b4⟩:=hb
  repeat' (first|((with_reducible apply G.a);exact rfl)|refine G.reg fun K hK=>?_|(with_reducible (refine hK _ _ ?_);clear hK K)|(with_reducible (refine hK _ ?_);clear hK K;intro wd hxd;have hS:=Sep.xx hxd)|((first|have hk:=hK|have hk:=hK2);clear hk;simp (disch:=first|exact dis|fail) only [push_cast,↓reduceIte,zq1,zq2,zq3,zq4,zq5,fct])|((first|refine brO_n ?_ ?_|refine brQ_n ?_ ?_)<;>intro hb hc<;>first|(with_reducible exact False.elim hc)|(exfalso;omega)|(simp only [hb];clear hb))|((first|refine zalc ?_|refine zbsl ?_|((with_reducible refine gBox ?_);refine zbox ?_));intro gb wb hS)|((with_reducible refine gSt ?_);refine zs2 ?_;intro wb hS)|(refine zcv ?_)|(refine zap (E:=eU) (y:=ec) ?_;intro vb wb hS)|(refine G.drt mixed fun K hK wd hxd=>?_;have hS:=Sep.xx hxd)|with_reducible refine OT_leaf ?_|(with_reducible refine OT_tail fun K2 hK2=>?_)|(with_reducible (refine hK2 _ ?_);clear hK2 K2;intro wd hxd;have hS:=Sep.xx hxd)|with_reducible refine OT_br fun K2 hK2=>?_|(refine hK2 _ _ ?_ ?_<;>clear hK2 K2)|refine G.drg mixed fun K hK=>?_|(refine G.cn ?_ ?_<;>intro hc<;>first|(with_reducible exact False.elim hc)|(exfalso;omega)|skip))
  all_goals
    (first|refine G.r1 ?_|refine G.r2 ?_|refine G.r3 ?_|refine G.r0 ?_|refine G.d0 ?_);(try simp (disch:=first|exact dis|fail) only [push_cast,↓reduceIte,zq1,zq2,zq3,zq4,zq5,fct])
    exact ⟨rfl,_,_,Sep.sub hS (by repeat first|exact Sub.rfl'|(refine Sub.c (by repeat constructor) ?_)|refine Sub.skip ?_)⟩
theorem gaBA0 (hM:MkS w0 w g l m M) (hb:bdM 900000000 m) (c1:¬ l.R≤m.bg) (c2:l.F≤m.fl.length):Ret Tryz.prog 172 #[.pointer (some ⟨g,0,none⟩),.agg #[.bool true,.bool true,.bool false,.bool false,.bool er,U ec.toNat]] w fun res w'=>GRes w0 w' g l M res (.error 7):=by
  refine in172 ?_
  obtain ⟨fv,rv,hS⟩:=hM
  obtain ⟨b1,b2,b3,b4⟩:=hb
  repeat' (first|((with_reducible apply G.a);exact rfl)|refine G.reg fun K hK=>?_|(with_reducible (refine hK _ _ ?_);clear hK K)|(with_reducible (refine hK _ ?_);clear hK K;intro wd hxd;have hS:=Sep.xx hxd)|((first|have hk:=hK|have hk:=hK2);clear hk;simp (disch:=first|exact dis|fail) only [push_cast,↓reduceIte,zq1,zq2,zq3,zq4,zq5,fct])|((first|refine brO_n ?_ ?_|refine brQ_n ?_ ?_)<;>intro hb hc<;>first|(with_reducible exact False.elim hc)|(exfalso;omega)|(simp only [hb];clear hb))|((first|refine zalc ?_|refine zbsl ?_|((with_reducible refine gBox ?_);refine zbox ?_));intro gb wb hS)|((with_reducible refine gSt ?_);refine zs2 ?_;intro wb hS)|(refine zcv ?_)|(refine G.drt mixed fun K hK wd hxd=>?_;have hS:=Sep.xx hxd)|with_reducible refine OT_leaf ?_|(with_reducible refine OT_tail fun K2 hK2=>?_)|(with_reducible (refine hK2 _ ?_);clear hK2 K2;intro wd hxd;have hS:=Sep.xx hxd)|with_reducible refine OT_br fun K2 hK2=>?_|(refine hK2 _ _ ?_ ?_<;>clear hK2 K2)|refine G.drg mixed fun K hK=>?_|(refine G.cn ?_ ?_<;>intro hc<;>first|(with_reducible exact False.elim hc)|(exfalso;omega)|skip))
  all_goals
    (first|refine G.r1 ?_|refine G.r2 ?_|refine G.r3 ?_|refine G.r0 ?_|refine G.d0 ?_);(try simp (disch:=first|exact dis|fail) only [push_cast,↓reduceIte,zq1,zq2,zq3,zq4,zq5,fct])
    exact ⟨rfl,{ m with bg:=m.bg+1 },_,_,Sep.sub hS (by repeat first|exact Sub.rfl'|(refine Sub.c (by repeat constructor) ?_)|refine Sub.skip ?_)⟩
theorem gaBA1 (hM:MkS w0 w g l m M) (hb:bdM 900000000 m) (c1:¬ l.R≤m.bg) (c2:¬ l.F≤m.fl.length):Ret Tryz.prog 172 #[.pointer (some ⟨g,0,none⟩),.agg #[.bool true,.bool true,.bool false,.bool false,.bool er,U ec.toNat]] w fun res w'=>GRes w0 w' g l M res (.ok { m with bg:=m.bg+1,fl:=m.fl++[ec] }):=by
  refine in172 ?_
  obtain ⟨fv,rv,hS⟩:=hM
  obtain ⟨b1,b2,b3,b4⟩:=hb
  repeat' (first|((with_reducible apply G.a);exact rfl)|refine G.reg fun K hK=>?_|(with_reducible (refine hK _ _ ?_);clear hK K)|(with_reducible (refine hK _ ?_);clear hK K;intro wd hxd;have hS:=Sep.xx hxd)|((first|have hk:=hK|have hk:=hK2);clear hk;simp (disch:=first|exact dis|fail) only [push_cast,↓reduceIte,zq1,zq2,zq3,zq4,zq5,fct])|((first|refine brO_n ?_ ?_|refine brQ_n ?_ ?_)<;>intro hb hc<;>first|(with_reducible exact False.elim hc)|(exfalso;omega)|(simp only [hb];clear hb))|((first|refine zalc ?_|refine zbsl ?_|((with_reducible refine gBox ?_);refine zbox ?_));intro gb wb hS)|((with_reducible refine gSt ?_);refine zs2 ?_;intro wb hS)|(refine zcv ?_)|(refine zap (E:=eU) (y:=ec) ?_;intro vb wb hS)|(refine G.drt mixed fun K hK wd hxd=>?_;have hS:=Sep.xx hxd)|with_reducible refine OT_leaf ?_|(with_reducible refine OT_tail fun K2 hK2=>?_)|(with_reducible (refine hK2 _ ?_);clear hK2 K2;intro wd hxd;have hS:=Sep.xx hxd)|with_reducible refine OT_br fun K2 hK2=>?_|(refine hK2 _ _ ?_ ?_<;>clear hK2 K2)|refine G.drg mixed fun K hK=>?_|(refine G.cn ?_ ?_<;>intro hc<;>first|(with_reducible exact False.elim hc)|(exfalso;omega)|skip))
  all_goals
    (first|refine G.r1 ?_|refine G.r2 ?_|refine G.r3 ?_|refine G.r0 ?_|refine G.d0 ?_);(try simp (disch:=first|exact dis|fail) only [push_cast,↓reduceIte,zq1,zq2,zq3,zq4,zq5,fct])
    exact ⟨rfl,_,_,Sep.sub hS (by repeat first|exact Sub.rfl'|(refine Sub.c (by repeat constructor) ?_)|refine Sub.skip ?_)⟩
theorem gaF0 (hM:MkS w0 w g l m M) (hb:bdM 900000000 m) (c2:l.N≤((m.rc++[m.fl]).length:Int)):Ret Tryz.prog 172 #[.pointer (some ⟨g,0,none⟩),.agg #[.bool false,.bool false,.bool true,.bool false,.bool er,U ec.toNat]] w fun res w'=>GRes w0 w' g l M res (.error 8):=by
  refine in172 ?_
  obtain ⟨fv,rv,hS⟩:=hM
  obtain ⟨b1,b2,b3,b4⟩:=hb
  repeat' (first|((with_reducible apply G.a);exact rfl)|refine G.reg fun K hK=>?_|(with_reducible (refine hK _ _ ?_);clear hK K)|(with_reducible (refine hK _ ?_);clear hK K;intro wd hxd;have hS:=Sep.xx hxd)|((first|have hk:=hK|have hk:=hK2);clear hk;simp (disch:=first|exact dis|fail) only [push_cast,↓reduceIte,zq1,zq2,zq3,zq4,zq5,fct])|((first|refine brO_n ?_ ?_|refine brQ_n ?_ ?_)<;>intro hb hc<;>first|(with_reducible exact False.elim hc)|(exfalso;omega)|(simp only [hb];clear hb))|((first|refine zalc ?_|refine zbsl ?_|((with_reducible refine gBox ?_);refine zbox ?_));intro gb wb hS)|((with_reducible refine gSt ?_);refine zs2 ?_;intro wb hS)|(refine zcv ?_)|((with_reducible (show CallK _ 194 _ _ _ _ _));have hx:=MkS.of (l:=l) (m:=m) hS (by repeat constructor) (by repeat constructor) (by repeat constructor);refine zco 194 (mput_spec (m:=m) hx (by unfold bdM;refine ⟨?_,?_,?_,?_⟩<;>first|omega|(simp;omega))) ?_;clear hx;rintro vb wb ⟨rfl,fv2,rv2,hS⟩;simp only [Mk.put_fl,Mk.put_rc,Mk.put_bg,Mk.put_ct,Mk.put_wd] at hS)|(refine G.drt mixed fun K hK wd hxd=>?_;have hS:=Sep.xx hxd)|with_reducible refine OT_leaf ?_|(with_reducible refine OT_tail fun K2 hK2=>?_)|(with_reducible (refine hK2 _ ?_);clear hK2 K2;intro wd hxd;have hS:=Sep.xx hxd)|with_reducible refine OT_br fun K2 hK2=>?_|(refine hK2 _ _ ?_ ?_<;>clear hK2 K2)|refine G.drg mixed fun K hK=>?_|(refine G.cn ?_ ?_<;>intro hc<;>first|(with_reducible exact False.elim hc)|(exfalso;omega)|skip))
  all_goals
    (first|refine G.r1 ?_|refine G.r2 ?_|refine G.r3 ?_|refine G.r0 ?_|refine G.d0 ?_);(try simp (disch:=first|exact dis|fail) only [push_cast,↓reduceIte,zq1,zq2,zq3,zq4,zq5,fct])
    exact ⟨rfl,m.put,_,_,Sep.sub hS (by repeat first|exact Sub.rfl'|(refine Sub.c (by repeat constructor) ?_)|refine Sub.skip ?_)⟩
theorem gaF1 (hM:MkS w0 w g l m M) (hb:bdM 900000000 m) (c2:¬ l.N≤((m.rc++[m.fl]).length:Int)) (hU:l.U=false):Ret Tryz.prog 172 #[.pointer (some ⟨g,0,none⟩),.agg #[.bool false,.bool false,.bool true,.bool false,.bool er,U ec.toNat]] w fun res w'=>GRes w0 w' g l M res (.ok m.put):=by
  refine in172 ?_
  obtain ⟨fv,rv,hS⟩:=hM
  obtain ⟨b1,b2,b3,b4⟩:=hb
  (have fct:=@hU;repeat' (first|((with_reducible apply G.a);exact rfl)|refine G.reg fun K hK=>?_|(with_reducible (refine hK _ _ ?_);clear hK K)|(with_reducible (refine hK _ ?_);clear hK K;intro wd hxd;have hS:=Sep.xx hxd)|((first|have hk:=hK|have hk:=hK2);clear hk;simp (disch:=first|exact dis|fail) only [push_cast,↓reduceIte,zq1,zq2,zq3,zq4,zq5,fct])|((first|refine brO_n ?_ ?_|refine brQ_n ?_ ?_)<;>intro hb hc<;>first|(with_reducible exact False.elim hc)|(exfalso;omega)|(simp only [hb];clear hb))|((first|refine zalc ?_|refine zbsl ?_|((with_reducible refine gBox ?_);refine zbox ?_));intro gb wb hS)|((with_reducible refine gSt ?_);refine zs2 ?_;intro wb hS)|(refine zcv ?_)|((with_reducible (show CallK _ 194 _ _ _ _ _));have hx:=MkS.of (l:=l) (m:=m) hS (by repeat constructor) (by repeat constructor) (by repeat constructor);refine zco 194 (mput_spec (m:=m) hx (by unfold bdM;refine ⟨?_,?_,?_,?_⟩<;>first|omega|(simp;omega))) ?_;clear hx;rintro vb wb ⟨rfl,fv2,rv2,hS⟩;simp only [Mk.put_fl,Mk.put_rc,Mk.put_bg,Mk.put_ct,Mk.put_wd] at hS)|(refine G.drt mixed fun K hK wd hxd=>?_;have hS:=Sep.xx hxd)|with_reducible refine OT_leaf ?_|(with_reducible refine OT_tail fun K2 hK2=>?_)|(with_reducible (refine hK2 _ ?_);clear hK2 K2;intro wd hxd;have hS:=Sep.xx hxd)|with_reducible refine OT_br fun K2 hK2=>?_|(refine hK2 _ _ ?_ ?_<;>clear hK2 K2)|refine G.drg mixed fun K hK=>?_|(refine G.cn ?_ ?_<;>intro hc<;>first|(with_reducible exact False.elim hc)|(exfalso;omega)|skip)))<;>(try clear fct)
  all_goals
    (first|refine G.r1 ?_|refine G.r2 ?_|refine G.r3 ?_|refine G.r0 ?_|refine G.d0 ?_);(try simp (disch:=first|exact dis|fail) only [push_cast,↓reduceIte,zq1,zq2,zq3,zq4,zq5,fct])
    exact ⟨rfl,_,_,Sep.sub hS (by repeat first|exact Sub.rfl'|(refine Sub.c (by repeat constructor) ?_)|refine Sub.skip ?_)⟩
theorem gaF2 (hM:MkS w0 w g l m M) (hb:bdM 900000000 m) (c2:¬ l.N≤((m.rc++[m.fl]).length:Int)) (hU:l.U=true) (hct:¬ (0:Int) < m.ct):Ret Tryz.prog 172 #[.pointer (some ⟨g,0,none⟩),.agg #[.bool false,.bool false,.bool true,.bool false,.bool er,U ec.toNat]] w fun res w'=>GRes w0 w' g l M res (.ok m.put):=by
  refine in172 ?_
  obtain ⟨fv,rv,hS⟩:=hM
  obtain ⟨b1,b2,b3,b4⟩:=hb
  (have fct:=@hU;repeat' (first|((with_reducible apply G.a);exact rfl)|refine G.reg fun K hK=>?_|(with_reducible (refine hK _ _ ?_);clear hK K)|(with_reducible (refine hK _ ?_);clear hK K;intro wd hxd;have hS:=Sep.xx hxd)|((first|have hk:=hK|have hk:=hK2);clear hk;simp (disch:=first|exact dis|fail) only [push_cast,↓reduceIte,zq1,zq2,zq3,zq4,zq5,fct])|((first|refine brO_n ?_ ?_|refine brQ_n ?_ ?_)<;>intro hb hc<;>first|(with_reducible exact False.elim hc)|(exfalso;omega)|(simp only [hb];clear hb))|((first|refine zalc ?_|refine zbsl ?_|((with_reducible refine gBox ?_);refine zbox ?_));intro gb wb hS)|((with_reducible refine gSt ?_);refine zs2 ?_;intro wb hS)|(refine zcv ?_)|((with_reducible (show CallK _ 194 _ _ _ _ _));have hx:=MkS.of (l:=l) (m:=m) hS (by repeat constructor) (by repeat constructor) (by repeat constructor);refine zco 194 (mput_spec (m:=m) hx (by unfold bdM;refine ⟨?_,?_,?_,?_⟩<;>first|omega|(simp;omega))) ?_;clear hx;rintro vb wb ⟨rfl,fv2,rv2,hS⟩;simp only [Mk.put_fl,Mk.put_rc,Mk.put_bg,Mk.put_ct,Mk.put_wd] at hS)|(refine G.drt mixed fun K hK wd hxd=>?_;have hS:=Sep.xx hxd)|with_reducible refine OT_leaf ?_|(with_reducible refine OT_tail fun K2 hK2=>?_)|(with_reducible (refine hK2 _ ?_);clear hK2 K2;intro wd hxd;have hS:=Sep.xx hxd)|with_reducible refine OT_br fun K2 hK2=>?_|(refine hK2 _ _ ?_ ?_<;>clear hK2 K2)|refine G.drg mixed fun K hK=>?_|(refine G.cn ?_ ?_<;>intro hc<;>first|(with_reducible exact False.elim hc)|(exfalso;omega)|skip)))<;>(try clear fct)
  all_goals
    (first|refine G.r1 ?_|refine G.r2 ?_|refine G.r3 ?_|refine G.r0 ?_|refine G.d0 ?_);(try simp (disch:=first|exact dis|fail) only [push_cast,↓reduceIte,zq1,zq2,zq3,zq4,zq5,fct])
    exact ⟨rfl,_,_,Sep.sub hS (by repeat first|exact Sub.rfl'|(refine Sub.c (by repeat constructor) ?_)|refine Sub.skip ?_)⟩
theorem gaF3 (hM:MkS w0 w g l m M) (hb:bdM 900000000 m) (c2:¬ l.N≤((m.rc++[m.fl]).length:Int)) (hU:l.U=true) (hct:(0:Int) < m.ct) (hw:((m.rc++[m.fl]).length:Int)=m.wd):Ret Tryz.prog 172 #[.pointer (some ⟨g,0,none⟩),.agg #[.bool false,.bool false,.bool true,.bool false,.bool er,U ec.toNat]] w fun res w'=>GRes w0 w' g l M res (.error 10):=by
  refine in172 ?_
  obtain ⟨fv,rv,hS⟩:=hM
  obtain ⟨b1,b2,b3,b4⟩:=hb
  (have fct:=@hU;repeat' (first|((with_reducible apply G.a);exact rfl)|refine G.reg fun K hK=>?_|(with_reducible (refine hK _ _ ?_);clear hK K)|(with_reducible (refine hK _ ?_);clear hK K;intro wd hxd;have hS:=Sep.xx hxd)|((first|have hk:=hK|have hk:=hK2);clear hk;simp (disch:=first|exact dis|fail) only [push_cast,↓reduceIte,zq1,zq2,zq3,zq4,zq5,fct])|((first|refine brO_n ?_ ?_|refine brQ_n ?_ ?_)<;>intro hb hc<;>first|(with_reducible exact False.elim hc)|(exfalso;omega)|(simp only [hb];clear hb))|((first|refine zalc ?_|refine zbsl ?_|((with_reducible refine gBox ?_);refine zbox ?_));intro gb wb hS)|((with_reducible refine gSt ?_);refine zs2 ?_;intro wb hS)|(refine zcv ?_)|((with_reducible (show CallK _ 194 _ _ _ _ _));have hx:=MkS.of (l:=l) (m:=m) hS (by repeat constructor) (by repeat constructor) (by repeat constructor);refine zco 194 (mput_spec (m:=m) hx (by unfold bdM;refine ⟨?_,?_,?_,?_⟩<;>first|omega|(simp;omega))) ?_;clear hx;rintro vb wb ⟨rfl,fv2,rv2,hS⟩;simp only [Mk.put_fl,Mk.put_rc,Mk.put_bg,Mk.put_ct,Mk.put_wd] at hS)|(refine G.drt mixed fun K hK wd hxd=>?_;have hS:=Sep.xx hxd)|with_reducible refine OT_leaf ?_|(with_reducible refine OT_tail fun K2 hK2=>?_)|(with_reducible (refine hK2 _ ?_);clear hK2 K2;intro wd hxd;have hS:=Sep.xx hxd)|with_reducible refine OT_br fun K2 hK2=>?_|(refine hK2 _ _ ?_ ?_<;>clear hK2 K2)|refine G.drg mixed fun K hK=>?_|(refine G.cn ?_ ?_<;>intro hc<;>first|(with_reducible exact False.elim hc)|(exfalso;omega)|skip)))<;>(try clear fct)
  all_goals
    (first|refine G.r1 ?_|refine G.r2 ?_|refine G.r3 ?_|refine G.r0 ?_|refine G.d0 ?_);(try simp (disch:=first|exact dis|fail) only [push_cast,↓reduceIte,zq1,zq2,zq3,zq4,zq5,fct])
    exact ⟨rfl,m.put,_,_,Sep.sub hS (by repeat first|exact Sub.rfl'|(refine Sub.c (by repeat constructor) ?_)|refine Sub.skip ?_)⟩
theorem gaF4 (hM:MkS w0 w g l m M) (hb:bdM 900000000 m) (c2:¬ l.N≤((m.rc++[m.fl]).length:Int)) (hU:l.U=true) (hct:(0:Int) < m.ct) (hw:¬ ((m.rc++[m.fl]).length:Int)=m.wd):Ret Tryz.prog 172 #[.pointer (some ⟨g,0,none⟩),.agg #[.bool false,.bool false,.bool true,.bool false,.bool er,U ec.toNat]] w fun res w'=>GRes w0 w' g l M res (.ok m.put):=by
  refine in172 ?_
  obtain ⟨fv,rv,hS⟩:=hM
  obtain ⟨b1,b2,b3,b4⟩:=hb
  (have fct:=@hU;repeat' (first|((with_reducible apply G.a);exact rfl)|refine G.reg fun K hK=>?_|(with_reducible (refine hK _ _ ?_);clear hK K)|(with_reducible (refine hK _ ?_);clear hK K;intro wd hxd;have hS:=Sep.xx hxd)|((first|have hk:=hK|have hk:=hK2);clear hk;simp (disch:=first|exact dis|fail) only [push_cast,↓reduceIte,zq1,zq2,zq3,zq4,zq5,fct])|((first|refine brO_n ?_ ?_|refine brQ_n ?_ ?_)<;>intro hb hc<;>first|(with_reducible exact False.elim hc)|(exfalso;omega)|(simp only [hb];clear hb))|((first|refine zalc ?_|refine zbsl ?_|((with_reducible refine gBox ?_);refine zbox ?_));intro gb wb hS)|((with_reducible refine gSt ?_);refine zs2 ?_;intro wb hS)|(refine zcv ?_)|((with_reducible (show CallK _ 194 _ _ _ _ _));have hx:=MkS.of (l:=l) (m:=m) hS (by repeat constructor) (by repeat constructor) (by repeat constructor);refine zco 194 (mput_spec (m:=m) hx (by unfold bdM;refine ⟨?_,?_,?_,?_⟩<;>first|omega|(simp;omega))) ?_;clear hx;rintro vb wb ⟨rfl,fv2,rv2,hS⟩;simp only [Mk.put_fl,Mk.put_rc,Mk.put_bg,Mk.put_ct,Mk.put_wd] at hS)|(refine G.drt mixed fun K hK wd hxd=>?_;have hS:=Sep.xx hxd)|with_reducible refine OT_leaf ?_|(with_reducible refine OT_tail fun K2 hK2=>?_)|(with_reducible (refine hK2 _ ?_);clear hK2 K2;intro wd hxd;have hS:=Sep.xx hxd)|with_reducible refine OT_br fun K2 hK2=>?_|(refine hK2 _ _ ?_ ?_<;>clear hK2 K2)|refine G.drg mixed fun K hK=>?_|(refine G.cn ?_ ?_<;>intro hc<;>first|(with_reducible exact False.elim hc)|(exfalso;omega)|skip)))<;>(try clear fct)
  all_goals
    (first|refine G.r1 ?_|refine G.r2 ?_|refine G.r3 ?_|refine G.r0 ?_|refine G.d0 ?_);(try simp (disch:=first|exact dis|fail) only [push_cast,↓reduceIte,zq1,zq2,zq3,zq4,zq5,fct])
    exact ⟨rfl,_,_,Sep.sub hS (by repeat first|exact Sub.rfl'|(refine Sub.c (by repeat constructor) ?_)|refine Sub.skip ?_)⟩
theorem gaBF0 (hM:MkS w0 w g l m M) (hb:bdM 900000000 m) (c1:¬ l.R≤m.bg) (c2:l.N≤((m.rc++[m.fl]).length:Int)):Ret Tryz.prog 172 #[.pointer (some ⟨g,0,none⟩),.agg #[.bool true,.bool false,.bool true,.bool false,.bool er,U ec.toNat]] w fun res w'=>GRes w0 w' g l M res (.error 8):=by
  refine in172 ?_
  obtain ⟨fv,rv,hS⟩:=hM
  obtain ⟨b1,b2,b3,b4⟩:=hb
  repeat' (first|((with_reducible apply G.a);exact rfl)|refine G.reg fun K hK=>?_|(with_reducible (refine hK _ _ ?_);clear hK K)|(with_reducible (refine hK _ ?_);clear hK K;intro wd hxd;have hS:=Sep.xx hxd)|((first|have hk:=hK|have hk:=hK2);clear hk;simp (disch:=first|exact dis|fail) only [push_cast,↓reduceIte,zq1,zq2,zq3,zq4,zq5,fct])|((first|refine brO_n ?_ ?_|refine brQ_n ?_ ?_)<;>intro hb hc<;>first|(with_reducible exact False.elim hc)|(exfalso;omega)|(simp only [hb];clear hb))|((first|refine zalc ?_|refine zbsl ?_|((with_reducible refine gBox ?_);refine zbox ?_));intro gb wb hS)|((with_reducible refine gSt ?_);refine zs2 ?_;intro wb hS)|(refine zcv ?_)|((with_reducible (show CallK _ 194 _ _ _ _ _));have hx:=MkS.of (l:=l) (m:=({ m with bg:=m.bg+1 }:Mk)) hS (by repeat constructor) (by repeat constructor) (by repeat constructor);refine zco 194 (mput_spec (m:=({ m with bg:=m.bg+1 }:Mk)) hx (by unfold bdM;refine ⟨?_,?_,?_,?_⟩<;>first|omega|(simp;omega))) ?_;clear hx;rintro vb wb ⟨rfl,fv2,rv2,hS⟩;simp only [Mk.put_fl,Mk.put_rc,Mk.put_bg,Mk.put_ct,Mk.put_wd] at hS)|(refine G.drt mixed fun K hK wd hxd=>?_;have hS:=Sep.xx hxd)|with_reducible refine OT_leaf ?_|(with_reducible refine OT_tail fun K2 hK2=>?_)|(with_reducible (refine hK2 _ ?_);clear hK2 K2;intro wd hxd;have hS:=Sep.xx hxd)|with_reducible refine OT_br fun K2 hK2=>?_|(refine hK2 _ _ ?_ ?_<;>clear hK2 K2)|refine G.drg mixed fun K hK=>?_|(refine G.cn ?_ ?_<;>intro hc<;>first|(with_reducible exact False.elim hc)|(exfalso;omega)|skip))
  all_goals
    (first|refine G.r1 ?_|refine G.r2 ?_|refine G.r3 ?_|refine G.r0 ?_|refine G.d0 ?_);(try simp (disch:=first|exact dis|fail) only [push_cast,↓reduceIte,zq1,zq2,zq3,zq4,zq5,fct])
    exact ⟨rfl,({ m with bg:=m.bg+1 }:Mk).put,_,_,Sep.sub hS (by repeat first|exact Sub.rfl'|(refine Sub.c (by repeat constructor) ?_)|refine Sub.skip ?_)⟩
theorem gaBF1 (hM:MkS w0 w g l m M) (hb:bdM 900000000 m) (c1:¬ l.R≤m.bg) (c2:¬ l.N≤((m.rc++[m.fl]).length:Int)) (hU:l.U=false):Ret Tryz.prog 172 #[.pointer (some ⟨g,0,none⟩),.agg #[.bool true,.bool false,.bool true,.bool false,.bool er,U ec.toNat]] w fun res w'=>GRes w0 w' g l M res (.ok ({ m with bg:=m.bg+1 }:Mk).put):=by
  refine in172 ?_
  obtain ⟨fv,rv,hS⟩:=hM
  obtain ⟨b1,b2,b3,b4⟩:=hb
  (have fct:=@hU;repeat' (first|((with_reducible apply G.a);exact rfl)|refine G.reg fun K hK=>?_|(with_reducible (refine hK _ _ ?_);clear hK K)|(with_reducible (refine hK _ ?_);clear hK K;intro wd hxd;have hS:=Sep.xx hxd)|((first|have hk:=hK|have hk:=hK2);clear hk;simp (disch:=first|exact dis|fail) only [push_cast,↓reduceIte,zq1,zq2,zq3,zq4,zq5,fct])|((first|refine brO_n ?_ ?_|refine brQ_n ?_ ?_)<;>intro hb hc<;>first|(with_reducible exact False.elim hc)|(exfalso;omega)|(simp only [hb];clear hb))|((first|refine zalc ?_|refine zbsl ?_|((with_reducible refine gBox ?_);refine zbox ?_));intro gb wb hS)|((with_reducible refine gSt ?_);refine zs2 ?_;intro wb hS)|(refine zcv ?_)|((with_reducible (show CallK _ 194 _ _ _ _ _));have hx:=MkS.of (l:=l) (m:=({ m with bg:=m.bg+1 }:Mk)) hS (by repeat constructor) (by repeat constructor) (by repeat constructor);refine zco 194 (mput_spec (m:=({ m with bg:=m.bg+1 }:Mk)) hx (by unfold bdM;refine ⟨?_,?_,?_,?_⟩<;>first|omega|(simp;omega))) ?_;clear hx;rintro vb wb ⟨rfl,fv2,rv2,hS⟩;simp only [Mk.put_fl,Mk.put_rc,Mk.put_bg,Mk.put_ct,Mk.put_wd] at hS)|(refine G.drt mixed fun K hK wd hxd=>?_;have hS:=Sep.xx hxd)|with_reducible refine OT_leaf ?_|(with_reducible refine OT_tail fun K2 hK2=>?_)|(with_reducible (refine hK2 _ ?_);clear hK2 K2;intro wd hxd;have hS:=Sep.xx hxd)|with_reducible refine OT_br fun K2 hK2=>?_|(refine hK2 _ _ ?_ ?_<;>clear hK2 K2)|refine G.drg mixed fun K hK=>?_|(refine G.cn ?_ ?_<;>intro hc<;>first|(with_reducible exact False.elim hc)|(exfalso;omega)|skip)))<;>(try clear fct)
  all_goals
    (first|refine G.r1 ?_|refine G.r2 ?_|refine G.r3 ?_|refine G.r0 ?_|refine G.d0 ?_);(try simp (disch:=first|exact dis|fail) only [push_cast,↓reduceIte,zq1,zq2,zq3,zq4,zq5,fct])
    exact ⟨rfl,_,_,Sep.sub hS (by repeat first|exact Sub.rfl'|(refine Sub.c (by repeat constructor) ?_)|refine Sub.skip ?_)⟩
theorem gaBF2 (hM:MkS w0 w g l m M) (hb:bdM 900000000 m) (c1:¬ l.R≤m.bg) (c2:¬ l.N≤((m.rc++[m.fl]).length:Int)) (hU:l.U=true) (hct:¬ (0:Int) < m.ct):Ret Tryz.prog 172 #[.pointer (some ⟨g,0,none⟩),.agg #[.bool true,.bool false,.bool true,.bool false,.bool er,U ec.toNat]] w fun res w'=>GRes w0 w' g l M res (.ok ({ m with bg:=m.bg+1 }:Mk).put):=by
  refine in172 ?_
  obtain ⟨fv,rv,hS⟩:=hM
  obtain ⟨b1,b2,b3,b4⟩:=hb
  (have fct:=@hU;repeat' (first|((with_reducible apply G.a);exact rfl)|refine G.reg fun K hK=>?_|(with_reducible (refine hK _ _ ?_);clear hK K)|(with_reducible (refine hK _ ?_);clear hK K;intro wd hxd;have hS:=Sep.xx hxd)|((first|have hk:=hK|have hk:=hK2);clear hk;simp (disch:=first|exact dis|fail) only [push_cast,↓reduceIte,zq1,zq2,zq3,zq4,zq5,fct])|((first|refine brO_n ?_ ?_|refine brQ_n ?_ ?_)<;>intro hb hc<;>first|(with_reducible exact False.elim hc)|(exfalso;omega)|(simp only [hb];clear hb))|((first|refine zalc ?_|refine zbsl ?_|((with_reducible refine gBox ?_);refine zbox ?_));intro gb wb hS)|((with_reducible refine gSt ?_);refine zs2 ?_;intro wb hS)|(refine zcv ?_)|((with_reducible (show CallK _ 194 _ _ _ _ _));have hx:=MkS.of (l:=l) (m:=({ m with bg:=m.bg+1 }:Mk)) hS (by repeat constructor) (by repeat constructor) (by repeat constructor);refine zco 194 (mput_spec (m:=({ m with bg:=m.bg+1 }:Mk)) hx (by unfold bdM;refine ⟨?_,?_,?_,?_⟩<;>first|omega|(simp;omega))) ?_;clear hx;rintro vb wb ⟨rfl,fv2,rv2,hS⟩;simp only [Mk.put_fl,Mk.put_rc,Mk.put_bg,Mk.put_ct,Mk.put_wd] at hS)|(refine G.drt mixed fun K hK wd hxd=>?_;have hS:=Sep.xx hxd)|with_reducible refine OT_leaf ?_|(with_reducible refine OT_tail fun K2 hK2=>?_)|(with_reducible (refine hK2 _ ?_);clear hK2 K2;intro wd hxd;have hS:=Sep.xx hxd)|with_reducible refine OT_br fun K2 hK2=>?_|(refine hK2 _ _ ?_ ?_<;>clear hK2 K2)|refine G.drg mixed fun K hK=>?_|(refine G.cn ?_ ?_<;>intro hc<;>first|(with_reducible exact False.elim hc)|(exfalso;omega)|skip)))<;>(try clear fct)
  all_goals
    (first|refine G.r1 ?_|refine G.r2 ?_|refine G.r3 ?_|refine G.r0 ?_|refine G.d0 ?_);(try simp (disch:=first|exact dis|fail) only [push_cast,↓reduceIte,zq1,zq2,zq3,zq4,zq5,fct])
    exact ⟨rfl,_,_,Sep.sub hS (by repeat first|exact Sub.rfl'|(refine Sub.c (by repeat constructor) ?_)|refine Sub.skip ?_)⟩
theorem gaBF3 (hM:MkS w0 w g l m M) (hb:bdM 900000000 m) (c1:¬ l.R≤m.bg) (c2:¬ l.N≤((m.rc++[m.fl]).length:Int)) (hU:l.U=true) (hct:(0:Int) < m.ct) (hw:((m.rc++[m.fl]).length:Int)=m.wd):Ret Tryz.prog 172 #[.pointer (some ⟨g,0,none⟩),.agg #[.bool true,.bool false,.bool true,.bool false,.bool er,U ec.toNat]] w fun res w'=>GRes w0 w' g l M res (.error 10):=by
  refine in172 ?_
  obtain ⟨fv,rv,hS⟩:=hM
  obtain ⟨b1,b2,b3,b4⟩:=hb
  (have fct:=@hU;repeat' (first|((with_reducible apply G.a);exact rfl)|refine G.reg fun K hK=>?_|(with_reducible (refine hK _ _ ?_);clear hK K)|(with_reducible (refine hK _ ?_);clear hK K;intro wd hxd;have hS:=Sep.xx hxd)|((first|have hk:=hK|have hk:=hK2);clear hk;simp (disch:=first|exact dis|fail) only [push_cast,↓reduceIte,zq1,zq2,zq3,zq4,zq5,fct])|((first|refine brO_n ?_ ?_|refine brQ_n ?_ ?_)<;>intro hb hc<;>first|(with_reducible exact False.elim hc)|(exfalso;omega)|(simp only [hb];clear hb))|((first|refine zalc ?_|refine zbsl ?_|((with_reducible refine gBox ?_);refine zbox ?_));intro gb wb hS)|((with_reducible refine gSt ?_);refine zs2 ?_;intro wb hS)|(refine zcv ?_)|((with_reducible (show CallK _ 194 _ _ _ _ _));have hx:=MkS.of (l:=l) (m:=({ m with bg:=m.bg+1 }:Mk)) hS (by repeat constructor) (by repeat constructor) (by repeat constructor);refine zco 194 (mput_spec (m:=({ m with bg:=m.bg+1 }:Mk)) hx (by unfold bdM;refine ⟨?_,?_,?_,?_⟩<;>first|omega|(simp;omega))) ?_;clear hx;rintro vb wb ⟨rfl,fv2,rv2,hS⟩;simp only [Mk.put_fl,Mk.put_rc,Mk.put_bg,Mk.put_ct,Mk.put_wd] at hS)|(refine G.drt mixed fun K hK wd hxd=>?_;have hS:=Sep.xx hxd)|with_reducible refine OT_leaf ?_|(with_reducible refine OT_tail fun K2 hK2=>?_)|(with_reducible (refine hK2 _ ?_);clear hK2 K2;intro wd hxd;have hS:=Sep.xx hxd)|with_reducible refine OT_br fun K2 hK2=>?_|(refine hK2 _ _ ?_ ?_<;>clear hK2 K2)|refine G.drg mixed fun K hK=>?_|(refine G.cn ?_ ?_<;>intro hc<;>first|(with_reducible exact False.elim hc)|(exfalso;omega)|skip)))<;>(try clear fct)
  all_goals
    (first|refine G.r1 ?_|refine G.r2 ?_|refine G.r3 ?_|refine G.r0 ?_|refine G.d0 ?_);(try simp (disch:=first|exact dis|fail) only [push_cast,↓reduceIte,zq1,zq2,zq3,zq4,zq5,fct])
    exact ⟨rfl,({ m with bg:=m.bg+1 }:Mk).put,_,_,Sep.sub hS (by repeat first|exact Sub.rfl'|(refine Sub.c (by repeat constructor) ?_)|refine Sub.skip ?_)⟩
theorem gaBF4 (hM:MkS w0 w g l m M) (hb:bdM 900000000 m) (c1:¬ l.R≤m.bg) (c2:¬ l.N≤((m.rc++[m.fl]).length:Int)) (hU:l.U=true) (hct:(0:Int) < m.ct) (hw:¬ ((m.rc++[m.fl]).length:Int)=m.wd):Ret Tryz.prog 172 #[.pointer (some ⟨g,0,none⟩),.agg #[.bool true,.bool false,.bool true,.bool false,.bool er,U ec.toNat]] w fun res w'=>GRes w0 w' g l M res (.ok ({ m with bg:=m.bg+1 }:Mk).put):=by
  refine in172 ?_
  obtain ⟨fv,rv,hS⟩:=hM
  obtain ⟨b1,b2,b3,b4⟩:=hb
  (have fct:=@hU;repeat' (first|((with_reducible apply G.a);exact rfl)|refine G.reg fun K hK=>?_|(with_reducible (refine hK _ _ ?_);clear hK K)|(with_reducible (refine hK _ ?_);clear hK K;intro wd hxd;have hS:=Sep.xx hxd)|((first|have hk:=hK|have hk:=hK2);clear hk;simp (disch:=first|exact dis|fail) only [push_cast,↓reduceIte,zq1,zq2,zq3,zq4,zq5,fct])|((first|refine brO_n ?_ ?_|refine brQ_n ?_ ?_)<;>intro hb hc<;>first|(with_reducible exact False.elim hc)|(exfalso;omega)|(simp only [hb];clear hb))|((first|refine zalc ?_|refine zbsl ?_|((with_reducible refine gBox ?_);refine zbox ?_));intro gb wb hS)|((with_reducible refine gSt ?_);refine zs2 ?_;intro wb hS)|(refine zcv ?_)|((with_reducible (show CallK _ 194 _ _ _ _ _));have hx:=MkS.of (l:=l) (m:=({ m with bg:=m.bg+1 }:Mk)) hS (by repeat constructor) (by repeat constructor) (by repeat constructor);refine zco 194 (mput_spec (m:=({ m with bg:=m.bg+1 }:Mk)) hx (by unfold bdM;refine ⟨?_,?_,?_,?_⟩<;>first|omega|(simp;omega))) ?_;clear hx;rintro vb wb ⟨rfl,fv2,rv2,hS⟩;simp only [Mk.put_fl,Mk.put_rc,Mk.put_bg,Mk.put_ct,Mk.put_wd] at hS)|(refine G.drt mixed fun K hK wd hxd=>?_;have hS:=Sep.xx hxd)|with_reducible refine OT_leaf ?_|(with_reducible refine OT_tail fun K2 hK2=>?_)|(with_reducible (refine hK2 _ ?_);clear hK2 K2;intro wd hxd;have hS:=Sep.xx hxd)|with_reducible refine OT_br fun K2 hK2=>?_|(refine hK2 _ _ ?_ ?_<;>clear hK2 K2)|refine G.drg mixed fun K hK=>?_|(refine G.cn ?_ ?_<;>intro hc<;>first|(with_reducible exact False.elim hc)|(exfalso;omega)|skip)))<;>(try clear fct)
  all_goals
    (first|refine G.r1 ?_|refine G.r2 ?_|refine G.r3 ?_|refine G.r0 ?_|refine G.d0 ?_);(try simp (disch:=first|exact dis|fail) only [push_cast,↓reduceIte,zq1,zq2,zq3,zq4,zq5,fct])
    exact ⟨rfl,_,_,Sep.sub hS (by repeat first|exact Sub.rfl'|(refine Sub.c (by repeat constructor) ?_)|refine Sub.skip ?_)⟩
theorem gaL1 (hM:MkS w0 w g l m M) (hb:bdM 900000000 m) (hU:l.U=false):Ret Tryz.prog 172 #[.pointer (some ⟨g,0,none⟩),.agg #[.bool false,.bool false,.bool false,.bool true,.bool er,U ec.toNat]] w fun res w'=>GRes w0 w' g l M res (.ok m.put):=by
  refine in172 ?_
  obtain ⟨fv,rv,hS⟩:=hM
  obtain ⟨b1,b2,b3,b4⟩:=hb
  (have fct:=@hU;repeat' (first|((with_reducible apply G.a);exact rfl)|refine G.reg fun K hK=>?_|(with_reducible (refine hK _ _ ?_);clear hK K)|(with_reducible (refine hK _ ?_);clear hK K;intro wd hxd;have hS:=Sep.xx hxd)|((first|have hk:=hK|have hk:=hK2);clear hk;simp (disch:=first|exact dis|fail) only [push_cast,↓reduceIte,zq1,zq2,zq3,zq4,zq5,fct])|((first|refine brO_n ?_ ?_|refine brQ_n ?_ ?_)<;>intro hb hc<;>first|(with_reducible exact False.elim hc)|(exfalso;omega)|(simp only [hb];clear hb))|((first|refine zalc ?_|refine zbsl ?_|((with_reducible refine gBox ?_);refine zbox ?_));intro gb wb hS)|((with_reducible refine gSt ?_);refine zs2 ?_;intro wb hS)|(refine zcv ?_)|((with_reducible (show CallK _ 194 _ _ _ _ _));have hx:=MkS.of (l:=l) (m:=m) hS (by repeat constructor) (by repeat constructor) (by repeat constructor);refine zco 194 (mput_spec (m:=m) hx (by unfold bdM;refine ⟨?_,?_,?_,?_⟩<;>first|omega|(simp;omega))) ?_;clear hx;rintro vb wb ⟨rfl,fv2,rv2,hS⟩;simp only [Mk.put_fl,Mk.put_rc,Mk.put_bg,Mk.put_ct,Mk.put_wd] at hS)|(refine G.drt mixed fun K hK wd hxd=>?_;have hS:=Sep.xx hxd)|with_reducible refine OT_leaf ?_|(with_reducible refine OT_tail fun K2 hK2=>?_)|(with_reducible (refine hK2 _ ?_);clear hK2 K2;intro wd hxd;have hS:=Sep.xx hxd)|with_reducible refine OT_br fun K2 hK2=>?_|(refine hK2 _ _ ?_ ?_<;>clear hK2 K2)|refine G.drg mixed fun K hK=>?_|(refine G.cn ?_ ?_<;>intro hc<;>first|(with_reducible exact False.elim hc)|(exfalso;omega)|skip)))<;>(try clear fct)
  all_goals
    (first|refine G.r1 ?_|refine G.r2 ?_|refine G.r3 ?_|refine G.r0 ?_|refine G.d0 ?_);(try simp (disch:=first|exact dis|fail) only [push_cast,↓reduceIte,zq1,zq2,zq3,zq4,zq5,fct])
    exact ⟨rfl,_,_,Sep.sub hS (by repeat first|exact Sub.rfl'|(refine Sub.c (by repeat constructor) ?_)|refine Sub.skip ?_)⟩
theorem gaL2 (hM:MkS w0 w g l m M) (hb:bdM 900000000 m) (hU:l.U=true) (hct:¬ (0:Int) < m.ct):Ret Tryz.prog 172 #[.pointer (some ⟨g,0,none⟩),.agg #[.bool false,.bool false,.bool false,.bool true,.bool er,U ec.toNat]] w fun res w'=>GRes w0 w' g l M res (.ok m.put):=by
  refine in172 ?_
  obtain ⟨fv,rv,hS⟩:=hM
  obtain ⟨b1,b2,b3,b4⟩:=hb
  (have fct:=@hU;repeat' (first|((with_reducible apply G.a);exact rfl)|refine G.reg fun K hK=>?_|(with_reducible (refine hK _ _ ?_);clear hK K)|(with_reducible (refine hK _ ?_);clear hK K;intro wd hxd;have hS:=Sep.xx hxd)|((first|have hk:=hK|have hk:=hK2);clear hk;simp (disch:=first|exact dis|fail) only [push_cast,↓reduceIte,zq1,zq2,zq3,zq4,zq5,fct])|((first|refine brO_n ?_ ?_|refine brQ_n ?_ ?_)<;>intro hb hc<;>first|(with_reducible exact False.elim hc)|(exfalso;omega)|(simp only [hb];clear hb))|((first|refine zalc ?_|refine zbsl ?_|((with_reducible refine gBox ?_);refine zbox ?_));intro gb wb hS)|((with_reducible refine gSt ?_);refine zs2 ?_;intro wb hS)|(refine zcv ?_)|((with_reducible (show CallK _ 194 _ _ _ _ _));have hx:=MkS.of (l:=l) (m:=m) hS (by repeat constructor) (by repeat constructor) (by repeat constructor);refine zco 194 (mput_spec (m:=m) hx (by unfold bdM;refine ⟨?_,?_,?_,?_⟩<;>first|omega|(simp;omega))) ?_;clear hx;rintro vb wb ⟨rfl,fv2,rv2,hS⟩;simp only [Mk.put_fl,Mk.put_rc,Mk.put_bg,Mk.put_ct,Mk.put_wd] at hS)|(refine G.drt mixed fun K hK wd hxd=>?_;have hS:=Sep.xx hxd)|with_reducible refine OT_leaf ?_|(with_reducible refine OT_tail fun K2 hK2=>?_)|(with_reducible (refine hK2 _ ?_);clear hK2 K2;intro wd hxd;have hS:=Sep.xx hxd)|with_reducible refine OT_br fun K2 hK2=>?_|(refine hK2 _ _ ?_ ?_<;>clear hK2 K2)|refine G.drg mixed fun K hK=>?_|(refine G.cn ?_ ?_<;>intro hc<;>first|(with_reducible exact False.elim hc)|(exfalso;omega)|skip)))<;>(try clear fct)
  all_goals
    (first|refine G.r1 ?_|refine G.r2 ?_|refine G.r3 ?_|refine G.r0 ?_|refine G.d0 ?_);(try simp (disch:=first|exact dis|fail) only [push_cast,↓reduceIte,zq1,zq2,zq3,zq4,zq5,fct])
    exact ⟨rfl,_,_,Sep.sub hS (by repeat first|exact Sub.rfl'|(refine Sub.c (by repeat constructor) ?_)|refine Sub.skip ?_)⟩
theorem gaL3 (hM:MkS w0 w g l m M) (hb:bdM 900000000 m) (hU:l.U=true) (hct:(0:Int) < m.ct) (hw:¬ ((m.rc++[m.fl]).length:Int)=m.wd):Ret Tryz.prog 172 #[.pointer (some ⟨g,0,none⟩),.agg #[.bool false,.bool false,.bool false,.bool true,.bool er,U ec.toNat]] w fun res w'=>GRes w0 w' g l M res (.error 10):=by
  refine in172 ?_
  obtain ⟨fv,rv,hS⟩:=hM
  obtain ⟨b1,b2,b3,b4⟩:=hb
  (have fct:=@hU;repeat' (first|((with_reducible apply G.a);exact rfl)|refine G.reg fun K hK=>?_|(with_reducible (refine hK _ _ ?_);clear hK K)|(with_reducible (refine hK _ ?_);clear hK K;intro wd hxd;have hS:=Sep.xx hxd)|((first|have hk:=hK|have hk:=hK2);clear hk;simp (disch:=first|exact dis|fail) only [push_cast,↓reduceIte,zq1,zq2,zq3,zq4,zq5,fct])|((first|refine brO_n ?_ ?_|refine brQ_n ?_ ?_)<;>intro hb hc<;>first|(with_reducible exact False.elim hc)|(exfalso;omega)|(simp only [hb];clear hb))|((first|refine zalc ?_|refine zbsl ?_|((with_reducible refine gBox ?_);refine zbox ?_));intro gb wb hS)|((with_reducible refine gSt ?_);refine zs2 ?_;intro wb hS)|(refine zcv ?_)|((with_reducible (show CallK _ 194 _ _ _ _ _));have hx:=MkS.of (l:=l) (m:=m) hS (by repeat constructor) (by repeat constructor) (by repeat constructor);refine zco 194 (mput_spec (m:=m) hx (by unfold bdM;refine ⟨?_,?_,?_,?_⟩<;>first|omega|(simp;omega))) ?_;clear hx;rintro vb wb ⟨rfl,fv2,rv2,hS⟩;simp only [Mk.put_fl,Mk.put_rc,Mk.put_bg,Mk.put_ct,Mk.put_wd] at hS)|(refine G.drt mixed fun K hK wd hxd=>?_;have hS:=Sep.xx hxd)|with_reducible refine OT_leaf ?_|(with_reducible refine OT_tail fun K2 hK2=>?_)|(with_reducible (refine hK2 _ ?_);clear hK2 K2;intro wd hxd;have hS:=Sep.xx hxd)|with_reducible refine OT_br fun K2 hK2=>?_|(refine hK2 _ _ ?_ ?_<;>clear hK2 K2)|refine G.drg mixed fun K hK=>?_|(refine G.cn ?_ ?_<;>intro hc<;>first|(with_reducible exact False.elim hc)|(exfalso;omega)|skip)))<;>(try clear fct)
  all_goals
    (first|refine G.r1 ?_|refine G.r2 ?_|refine G.r3 ?_|refine G.r0 ?_|refine G.d0 ?_);(try simp (disch:=first|exact dis|fail) only [push_cast,↓reduceIte,zq1,zq2,zq3,zq4,zq5,fct])
    exact ⟨rfl,m.put,_,_,Sep.sub hS (by repeat first|exact Sub.rfl'|(refine Sub.c (by repeat constructor) ?_)|refine Sub.skip ?_)⟩
theorem gaL4 (hM:MkS w0 w g l m M) (hb:bdM 900000000 m) (hU:l.U=true) (hct:(0:Int) < m.ct) (hw:((m.rc++[m.fl]).length:Int)=m.wd):Ret Tryz.prog 172 #[.pointer (some ⟨g,0,none⟩),.agg #[.bool false,.bool false,.bool false,.bool true,.bool er,U ec.toNat]] w fun res w'=>GRes w0 w' g l M res (.ok m.put):=by
  refine in172 ?_
  obtain ⟨fv,rv,hS⟩:=hM
  obtain ⟨b1,b2,b3,b4⟩:=hb
  (have fct:=@hU;repeat' (first|((with_reducible apply G.a);exact rfl)|refine G.reg fun K hK=>?_|(with_reducible (refine hK _ _ ?_);clear hK K)|(with_reducible (refine hK _ ?_);clear hK K;intro wd hxd;have hS:=Sep.xx hxd)|((first|have hk:=hK|have hk:=hK2);clear hk;simp (disch:=first|exact dis|fail) only [push_cast,↓reduceIte,zq1,zq2,zq3,zq4,zq5,fct])|((first|refine brO_n ?_ ?_|refine brQ_n ?_ ?_)<;>intro hb hc<;>first|(with_reducible exact False.elim hc)|(exfalso;omega)|(simp only [hb];clear hb))|((first|refine zalc ?_|refine zbsl ?_|((with_reducible refine gBox ?_);refine zbox ?_));intro gb wb hS)|((with_reducible refine gSt ?_);refine zs2 ?_;intro wb hS)|(refine zcv ?_)|((with_reducible (show CallK _ 194 _ _ _ _ _));have hx:=MkS.of (l:=l) (m:=m) hS (by repeat constructor) (by repeat constructor) (by repeat constructor);refine zco 194 (mput_spec (m:=m) hx (by unfold bdM;refine ⟨?_,?_,?_,?_⟩<;>first|omega|(simp;omega))) ?_;clear hx;rintro vb wb ⟨rfl,fv2,rv2,hS⟩;simp only [Mk.put_fl,Mk.put_rc,Mk.put_bg,Mk.put_ct,Mk.put_wd] at hS)|(refine G.drt mixed fun K hK wd hxd=>?_;have hS:=Sep.xx hxd)|with_reducible refine OT_leaf ?_|(with_reducible refine OT_tail fun K2 hK2=>?_)|(with_reducible (refine hK2 _ ?_);clear hK2 K2;intro wd hxd;have hS:=Sep.xx hxd)|with_reducible refine OT_br fun K2 hK2=>?_|(refine hK2 _ _ ?_ ?_<;>clear hK2 K2)|refine G.drg mixed fun K hK=>?_|(refine G.cn ?_ ?_<;>intro hc<;>first|(with_reducible exact False.elim hc)|(exfalso;omega)|skip)))<;>(try clear fct)
  all_goals
    (first|refine G.r1 ?_|refine G.r2 ?_|refine G.r3 ?_|refine G.r0 ?_|refine G.d0 ?_);(try simp (disch:=first|exact dis|fail) only [push_cast,↓reduceIte,zq1,zq2,zq3,zq4,zq5,fct])
    exact ⟨rfl,_,_,Sep.sub hS (by repeat first|exact Sub.rfl'|(refine Sub.c (by repeat constructor) ?_)|refine Sub.skip ?_)⟩
end
theorem gather_spec {g:Nat} {l:Lm} {m:Mk} {e:Ev} {M:List Chk} {w w0:World} (hM:MkS w0 w g l m M) (hb:bdM 900000000 m) (he:okEv e) :
    Ret Tryz.prog 172 #[.pointer (some ⟨g,0,none⟩),(.agg #[.bool e.b,.bool e.a,.bool e.f,.bool e.l,.bool e.r,U e.c.toNat])] w fun res w'=>GRes w0 w' g l M res (gather l m e):=by
  obtain ⟨eb,ea,ef,el,er,ec⟩:=e
  simp only [okEv] at he
  rcases he with ⟨rfl,rfl,rfl,rfl⟩|⟨rfl,rfl,rfl,rfl⟩|⟨rfl,rfl,rfl,rfl⟩|⟨rfl,rfl,rfl,rfl⟩|⟨rfl,rfl,rfl,rfl⟩|⟨rfl,rfl,rfl,rfl⟩|⟨rfl,rfl,rfl,rfl⟩
  · rw [show gather l m ⟨false,false,false,false,er,ec⟩=.ok m from rfl];exact ga0 hM hb
  · by_cases c1:l.R≤m.bg
    · rw [show gather l m ⟨true,false,false,false,er,ec⟩=.error 9 by simp [gather,gBegin,c1]];exact gaB0 hM hb c1 _ _
    · rw [show gather l m ⟨true,false,false,false,er,ec⟩=.ok { m with bg:=m.bg+1 } by simp [gather,gBegin,gAdd,gField,gLine,c1]];exact gaB1 hM hb c1
  · by_cases c1:l.R≤m.bg
    · rw [show gather l m ⟨true,false,true,false,er,ec⟩=.error 9 by simp [gather,gBegin,c1]];exact gaB0 hM hb c1 _ _
    · have hg:gather l m ⟨true,false,true,false,er,ec⟩=gField l true { m with bg:=m.bg+1 }:=by
        simp only [gather,gBegin,gAdd,c1,if_true,if_false,Bool.false_eq_true]
        cases gField l true { m with bg:=m.bg+1 }<;>rfl
      rw [hg]
      unfold gField
      rw [if_pos rfl]
      by_cases c2:l.N≤((m.rc++[m.fl]).length:Int)
      · rw [if_pos (show l.N≤(({ m with bg:=m.bg+1 }:Mk).put.rc.length:Int) from c2)];exact gaBF0 hM hb c1 c2
      · rw [if_neg (show ¬ l.N≤(({ m with bg:=m.bg+1 }:Mk).put.rc.length:Int) from c2)]
        cases hU:l.U
        · rw [if_neg (by simp [Mk.strict,hU])];exact gaBF1 hM hb c1 c2 hU
        · by_cases hct:(0:Int) < m.ct
          · by_cases hw:((m.rc++[m.fl]).length:Int)=m.wd
            · rw [if_pos ⟨by simp [Mk.strict,hU];omega,by simp only [Mk.put];omega⟩];exact gaBF3 hM hb c1 c2 hU hct hw
            · rw [if_neg (by rintro ⟨_,h⟩;simp only [Mk.put] at h;omega)];exact gaBF4 hM hb c1 c2 hU hct hw
          · rw [if_neg (by rintro ⟨h,_⟩;simp [Mk.strict,hU] at h;omega)];exact gaBF2 hM hb c1 c2 hU hct
  · by_cases c1:l.R≤m.bg
    · rw [show gather l m ⟨true,true,false,false,er,ec⟩=.error 9 by simp [gather,gBegin,c1]];exact gaB0 hM hb c1 _ _
    · by_cases c2:l.F≤m.fl.length
      · rw [show gather l m ⟨true,true,false,false,er,ec⟩=.error 7 by simp [gather,gBegin,gAdd,c1,c2]];exact gaBA0 hM hb c1 c2
      · rw [show gather l m ⟨true,true,false,false,er,ec⟩=.ok { m with bg:=m.bg+1,fl:=m.fl++[ec] } by simp [gather,gBegin,gAdd,gField,gLine,c1,c2]];exact gaBA1 hM hb c1 c2
  · by_cases c2:l.F≤m.fl.length
    · rw [show gather l m ⟨false,true,false,false,er,ec⟩=.error 7 by simp [gather,gBegin,gAdd,c2]];exact gaA0 hM hb c2
    · rw [show gather l m ⟨false,true,false,false,er,ec⟩=.ok { m with fl:=m.fl++[ec] } by simp [gather,gBegin,gAdd,gField,gLine,c2]];exact gaA1 hM hb c2
  · have hg:gather l m ⟨false,false,true,false,er,ec⟩=gField l true m:=by
      simp only [gather,gBegin,gAdd,if_false,Bool.false_eq_true]
      cases gField l true m<;>rfl
    rw [hg]
    unfold gField
    rw [if_pos rfl]
    by_cases c2:l.N≤((m.rc++[m.fl]).length:Int)
    · rw [if_pos (show l.N≤(m.put.rc.length:Int) from c2)];exact gaF0 hM hb c2
    · rw [if_neg (show ¬ l.N≤(m.put.rc.length:Int) from c2)]
      cases hU:l.U
      · rw [if_neg (by simp [Mk.strict,hU])];exact gaF1 hM hb c2 hU
      · by_cases hct:(0:Int) < m.ct
        · by_cases hw:((m.rc++[m.fl]).length:Int)=m.wd
          · rw [if_pos ⟨by simp [Mk.strict,hU];omega,by simp only [Mk.put];omega⟩];exact gaF3 hM hb c2 hU hct hw
          · rw [if_neg (by rintro ⟨_,h⟩;simp only [Mk.put] at h;omega)];exact gaF4 hM hb c2 hU hct hw
        · rw [if_neg (by rintro ⟨h,_⟩;simp [Mk.strict,hU] at h;omega)];exact gaF2 hM hb c2 hU hct
  · have hg:gather l m ⟨false,false,false,true,er,ec⟩=gLine l true m:=rfl
    rw [hg]
    unfold gLine
    rw [if_pos rfl]
    cases hU:l.U
    · rw [if_neg (by simp [Mk.strict,hU])];exact gaL1 hM hb hU
    · by_cases hct:(0:Int) < m.ct
      · by_cases hw:((m.rc++[m.fl]).length:Int)=m.wd
        · rw [if_neg (by rintro ⟨_,h⟩;simp only [Mk.put] at h;omega)];exact gaL4 hM hb hU hct hw
        · rw [if_pos ⟨by simp [Mk.strict,hU];omega,by simp only [Mk.put];omega⟩];exact gaL3 hM hb hU hct hw
      · rw [if_neg (by rintro ⟨h,_⟩;simp [Mk.strict,hU] at h;omega)];exact gaL2 hM hb hU hct
end Go.Proofs.YtllanbmpacgigaaGreatDoor
namespace Go.Proofs.YtllanbmpacgigaaGreatDoor
open Nat renaming reduceAdd→zq1,reduceLeDiff→zq2,reduceEqDiff→zq3,reduceLT→zq4
open Int renaming reduceToNat→zq5
set_option linter.unusedSimpArgs false
set_option linter.unusedVariables false
attribute [local irreducible] SemK UnitK StK AlcK BslK CallK CallV Instr.box Builtin.append_ Instr.makeSlice Instr.makeMap Instr.lookup Instr.mapUpdate Instr.sliceAt convert
open Go.RowKit
def TRes (w0 w':World) (g:Nat) (l:Lm) (M:List Chk) (res:Value):Except Int (Mk×Option (List Str))→Prop
  | .error k=>res=(.tuple #[.slice none 0 0,.bool false,I k])∧Sep w0 w' M
  | .ok (m',none)=>res=(.tuple #[.slice none 0 0,.bool false,I 0])∧MkS w0 w' g l m' M
  | .ok (m',some r)=>∃ rv,res=.tuple #[rv,.bool true,I 0]∧MkS w0 w' g l m' (accC rv 9 eS r :: M)
theorem out_0 {m:Mk} (h:(m.ct:Int)=0):m.out=⟨m.fl,[],m.bg,m.ct+1,m.rc.length⟩:=by
  have:m.ct=0:=by omega
  simp [Mk.out,this]
theorem out_1 {m:Mk} (h:¬ (m.ct:Int)=0):m.out=⟨m.fl,[],m.bg,m.ct+1,m.wd⟩:=by
  have:¬ m.ct=0:=by omega
  simp [Mk.out,this]
theorem bd_mono {n k:Nat} {m:Mk} (h:bdM n m) (hk:n≤k):bdM k m:=⟨by have:=h.1;omega,by have:=h.2.1;omega,by have:=h.2.2.1;omega,by have:=h.2.2.2;omega⟩
theorem gather_bd {n:Nat} {l:Lm} {m m':Mk} {e:Ev} (h:bdM n m) (hg:gather l m e=.ok m'):bdM (n+2) m':=by
  unfold gather at hg
  split at hg
  · simp at hg
  · rename_i m1 h1
    have g1:m1.fl.length≤n∧m1.rc.length≤n∧m1.bg≤n+1∧m1.ct≤n:=by
      obtain ⟨b1,b2,b3,b4⟩:=h
      unfold gBegin at h1
      split at h1
      · split at h1
        · simp at h1
        · injection h1 with h1;subst h1;exact ⟨b1,b2,by simp;omega,b4⟩
      · injection h1 with h1;subst h1;exact ⟨b1,b2,by omega,b4⟩
    split at hg
    · simp at hg
    · rename_i m2 h2
      have g2:m2.fl.length≤n+1∧m2.rc.length≤n∧m2.bg≤n+1∧m2.ct≤n:=by
        obtain ⟨b1,b2,b3,b4⟩:=g1
        unfold gAdd at h2
        split at h2
        · split at h2
          · simp at h2
          · injection h2 with h2;subst h2;exact ⟨by simp;omega,b2,b3,b4⟩
        · injection h2 with h2;subst h2;exact ⟨by omega,b2,b3,b4⟩
      split at hg
      · simp at hg
      · rename_i m3 h3
        have g3:m3.fl.length≤n+1∧m3.rc.length≤n+1∧m3.bg≤n+1∧m3.ct≤n:=by
          obtain ⟨b1,b2,b3,b4⟩:=g2
          unfold gField at h3
          split at h3
          · split at h3
            · simp at h3
            · split at h3
              · simp at h3
              · injection h3 with h3;subst h3;exact ⟨by simp [Mk.put],by simp [Mk.put];omega,b3,b4⟩
          · injection h3 with h3;subst h3;exact ⟨b1,by omega,b3,b4⟩
        obtain ⟨b1,b2,b3,b4⟩:=g3
        unfold gLine at hg
        split at hg
        · split at hg
          · simp at hg
          · injection hg with hg;subst hg;exact ⟨by simp [Mk.put],by simp [Mk.put];omega,by simp only [Mk.put];omega,by simp only [Mk.put];omega⟩
        · injection hg with hg;subst hg;exact ⟨by omega,by omega,by omega,by omega⟩
theorem take_bd {n:Nat} {l:Lm} {m:Mk} {e:Ev} {x:Mk×Option (List Str)} (h:bdM n m) (hg:takeM l m e=.ok x):bdM (n+3) x.1:=by
  unfold takeM at hg
  split at hg
  · simp at hg
  · rename_i m' h1
    obtain ⟨b1,b2,b3,b4⟩:=gather_bd h h1
    split at hg
    · injection hg with hg;subst hg;exact ⟨by simp only [Mk.out];omega,by simp [Mk.out],by simp only [Mk.out];omega,by simp only [Mk.out];omega⟩
    · injection hg with hg;subst hg;exact ⟨by simp only;omega,by simp only;omega,by simp only;omega,by simp only;omega⟩
def c131:MC:=(.seq (.reg [qq 3 (.raw (.box 197 (.tmp 1)) 0),qq 4 (.mv (.const (.slice none 0 0))),qq 5 (.mv (kb false)),qq 6 (.mv (ki 0))]) (.seq (.seq (.reg [qm 8 0,qq 9 (.nck (.tmp 8)),qq 10 (.fad 9 (.tmp 9)),qq 11 (.ld none (.tmp 10)),qq 12 (.bin .eql (.tmp 11) (ki 0))]) (.cond (.tmp 12) (.reg [qm 13 0,qm 14 0,qq 15 (.ld (.some 6) (.tmp 3)),qq 16 (.call 172 [(.tmp 14),(.tmp 15)]),qq 17 (.nck (.tmp 13)),qq 18 (.fad 9 (.tmp 17)),qn (.st 1 (.tmp 18) (.tmp 16))]) .skip)) (.seq (.seq (.reg [qm 19 0,qq 20 (.nck (.tmp 19)),qq 21 (.fad 9 (.tmp 20)),qq 22 (.ld none (.tmp 21)),qq 23 (.bin .neq (.tmp 22) (ki 0))]) (.cond (.tmp 23) (.seq (.drg [qm 24 0,qq 25 (.nck (.tmp 24)),qq 26 (.fad 9 (.tmp 25)),qq 27 (.ld none (.tmp 26)),qq 4 (.mv (.const (.slice none 0 0))),qq 5 (.mv (kb false)),qm 6 27] none) .ret) .skip)) (.seq (.seq (.reg [qq 28 (.fad 4 (.tmp 3)),qq 29 (.ld none (.tmp 28)),qq 30 (.un .not (.tmp 29))]) (.cond (.tmp 30) (.seq (.reg [qq 4 (.mv (.const (.slice none 0 0))),qq 5 (.mv (kb false)),qq 6 (.mv (ki 0))]) .ret) .skip)) (.seq (.reg [qm 31 0,qq 32 (.nck (.tmp 31)),qq 33 (.fad 5 (.tmp 32)),qq 34 (.ld none (.tmp 33)),qm 7 34]) (.seq (.reg [qm 35 0,qq 36 (.nck (.tmp 35)),qq 37 (.fad 5 (.tmp 36)),qn (.st 1 (.tmp 37) (.const (.slice none 0 0)))]) (.seq (.seq (.reg [qm 38 0,qq 39 (.nck (.tmp 38)),qq 40 (.fad 7 (.tmp 39)),qq 41 (.ld none (.tmp 40)),qq 42 (.bin .eql (.tmp 41) (ki 0))]) (.cond (.tmp 42) (.reg [qm 43 0,qm 44 7,qq 45 (.len (.tmp 44)),qq 46 (.nck (.tmp 43)),qq 47 (.fad 8 (.tmp 46)),qn (.st 1 (.tmp 47) (.tmp 45))]) .skip)) (.seq (.reg [qm 48 0,qq 49 (.nck (.tmp 48)),qq 50 (.fad 7 (.tmp 49)),qq 51 (.ld none (.tmp 50)),qq 52 (.bin .add (.tmp 51) (ki 1)),qq 53 (.nck (.tmp 48)),qq 54 (.fad 7 (.tmp 53)),qn (.st 1 (.tmp 54) (.tmp 52))]) (.seq (.reg [qm 55 7,qm 4 55,qq 5 (.mv (kb true)),qq 6 (.mv (ki 0))]) .ret)))))))))
theorem k131:conv Tryz.prog 56 (Tryz.f131.body.getD .skip)=c131:=by kernel_rfl
theorem in131 {a0 a1:Value} {w:World} {R:Value→World→Prop} (h:G Tryz.prog Tryz.f131 56 [.c c131] R (frL 0 [a0,a1]) w):Ret Tryz.prog 131 #[a0,a1] w R:=G.enter (args:=[a0,a1]) Tryz.func131 (c:=Tryz.f131.body.getD .skip) (by kernel_rfl) (by kernel_rfl) (by simp) k131 h
set_option maxHeartbeats 1000000 in
theorem mtake_spec {g:Nat} {l:Lm} {m:Mk} {e:Ev} {M:List Chk} {w w0:World} (hM:MkS w0 w g l m M) (hb:bdM 900000000 m) (he:okEv e) :
    Ret Tryz.prog 131 #[.pointer (some ⟨g,0,none⟩),(.agg #[.bool e.b,.bool e.a,.bool e.f,.bool e.l,.bool e.r,U e.c.toNat])] w fun res w'=>TRes w0 w' g l M res (takeM l m e):=by
  refine in131 ?_
  obtain ⟨fv,rv,hS⟩:=hM
  unfold takeM
  obtain ⟨eb,ea,ef,el,er,ec⟩:=e
  cases hg:gather l m ⟨eb,ea,ef,el,er,ec⟩ with
  | error k =>
    have hk:=gather_err hg
    repeat' (first|((with_reducible apply G.a);exact rfl)|refine G.reg fun K hK=>?_|(with_reducible (refine hK _ _ ?_);clear hK K)|(with_reducible (refine hK _ ?_);clear hK K;intro wd hxd;have hS:=Sep.xx hxd)|(have hk:=hK;clear hk;simp (disch:=first|exact dis|fail) only [push_cast,↓reduceIte,zq1,zq2,zq3,zq4,zq5,fct])|(((with_reducible refine gBox ?_);refine zbox ?_);intro gb wb hS)|((with_reducible refine gSt ?_);refine zs2 ?_;intro wb hS)|((with_reducible (show CallK _ 172 _ _ _ _ _));have hx:=MkS.of (l:=l) (m:=m) hS (by repeat constructor) (by repeat constructor) (by repeat constructor);refine zco 172 (gather_spec (e:=⟨eb,ea,ef,el,_,ec⟩) hx hb he) ?_;clear hx;intro vb wb hG;rw [hg] at hG;obtain ⟨rfl,m2,fv2,rv2,hS⟩:=hG)|refine G.drg mixed fun K hK=>?_|(refine G.cn ?_ ?_<;>intro hc<;>first|(with_reducible exact False.elim hc)|(exfalso;omega)|skip))
    all_goals
      (first|refine G.r1 ?_|refine G.r2 ?_|refine G.r3 ?_|refine G.r0 ?_|refine G.d0 ?_);(try simp (disch:=first|exact dis|fail) only [push_cast,↓reduceIte,zq1,zq2,zq3,zq4,zq5,fct])
      exact ⟨rfl,Sep.sub hS (by repeat first|exact Sub.rfl'|(refine Sub.c (by repeat constructor) ?_)|refine Sub.skip ?_)⟩
  | ok m2 =>
    obtain ⟨b1,b2,b3,b4⟩:=gather_bd hb hg
    cases er
    · simp only [Bool.false_eq_true,if_false]
      repeat' (first|((with_reducible apply G.a);exact rfl)|refine G.reg fun K hK=>?_|(with_reducible (refine hK _ _ ?_);clear hK K)|(with_reducible (refine hK _ ?_);clear hK K;intro wd hxd;have hS:=Sep.xx hxd)|(have hk:=hK;clear hk;simp (disch:=first|exact dis|fail) only [push_cast,↓reduceIte,zq1,zq2,zq3,zq4,zq5,fct])|(((with_reducible refine gBox ?_);refine zbox ?_);intro gb wb hS)|((with_reducible refine gSt ?_);refine zs2 ?_;intro wb hS)|((with_reducible (show CallK _ 172 _ _ _ _ _));have hx:=MkS.of (l:=l) (m:=m) hS (by repeat constructor) (by repeat constructor) (by repeat constructor);refine zco 172 (gather_spec (e:=⟨eb,ea,ef,el,_,ec⟩) hx hb he) ?_;clear hx;intro vb wb hG;rw [hg] at hG;obtain ⟨rfl,fv2,rv2,hS⟩:=hG)|refine G.drg mixed fun K hK=>?_|(refine G.cn ?_ ?_<;>intro hc<;>first|(with_reducible exact False.elim hc)|(exfalso;omega)|skip))
      all_goals
        (first|refine G.r1 ?_|refine G.r2 ?_|refine G.r3 ?_|refine G.r0 ?_|refine G.d0 ?_);(try simp (disch:=first|exact dis|fail) only [push_cast,↓reduceIte,zq1,zq2,zq3,zq4,zq5,fct])
        exact ⟨rfl,_,_,Sep.sub hS (by repeat first|exact Sub.rfl'|(refine Sub.c (by repeat constructor) ?_)|refine Sub.skip ?_)⟩
    · simp only [if_true]
      repeat' (first|((with_reducible apply G.a);exact rfl)|refine G.reg fun K hK=>?_|(with_reducible (refine hK _ _ ?_);clear hK K)|(with_reducible (refine hK _ ?_);clear hK K;intro wd hxd;have hS:=Sep.xx hxd)|(have hk:=hK;clear hk;simp (disch:=first|exact dis|fail) only [push_cast,↓reduceIte,zq1,zq2,zq3,zq4,zq5,fct])|(((with_reducible refine gBox ?_);refine zbox ?_);intro gb wb hS)|((with_reducible refine gSt ?_);refine zs2 ?_;intro wb hS)|((with_reducible (show CallK _ 172 _ _ _ _ _));have hx:=MkS.of (l:=l) (m:=m) hS (by repeat constructor) (by repeat constructor) (by repeat constructor);refine zco 172 (gather_spec (e:=⟨eb,ea,ef,el,_,ec⟩) hx hb he) ?_;clear hx;intro vb wb hG;rw [hg] at hG;obtain ⟨rfl,fv2,rv2,hS⟩:=hG)|refine G.drg mixed fun K hK=>?_|(refine G.cn ?_ ?_<;>intro hc<;>first|(with_reducible exact False.elim hc)|(exfalso;omega)|skip))
      all_goals
        (first|refine G.r1 ?_|refine G.r2 ?_|refine G.r3 ?_|refine G.r0 ?_|refine G.d0 ?_);(try simp (disch:=first|exact dis|fail) only [push_cast,↓reduceIte,zq1,zq2,zq3,zq4,zq5,fct])
        have hS:=hS.nil 9 eS
        first|rw [out_0 (m:=m2) (by assumption)]|rw [out_1 (m:=m2) (by assumption)]
        exact ⟨_,rfl,fv2,.slice none 0 0,Sep.sub hS (by repeat first|exact Sub.rfl'|(refine Sub.c (by repeat constructor) ?_)|refine Sub.skip ?_)⟩
end Go.Proofs.YtllanbmpacgigaaGreatDoor
namespace Go.Proofs.YtllanbmpacgigaaGreatDoor
open Nat renaming reduceAdd→zq1,reduceLeDiff→zq2,reduceEqDiff→zq3,reduceLT→zq4
open Int renaming reduceToNat→zq5
set_option linter.unusedSimpArgs false
set_option linter.unusedVariables false
attribute [local irreducible] SemK UnitK StK AlcK BslK CallK CallV Instr.box Builtin.append_ Instr.makeSlice Instr.makeMap Instr.lookup Instr.mapUpdate Instr.sliceAt convert
open Go.RowKit
def WkS (w0 w:World) (gw g:Nat) (d:Dl) (l:Lm) (q st:Int) (m:Mk) (M:List Chk):Prop:=∃ fv rv,Sep w0 w (boxC gw 139 [U d.dl,U d.q,I d.e,.pointer (some ⟨g,0,none⟩),I q,I st] :: boxC g 192 [I l.F,I l.N,I l.R,.bool l.U,fv,rv,I m.bg,I m.ct,I m.wd,I 0] :: accC fv 5 eU m.fl :: accC rv 9 eS m.rc :: M)
def stepW (d:Dl) (l:Lm) (q st:Int) (m:Mk) (b:UInt8):Except Int (Int×Int×Mk×Option (List Str)) :=
  if (stepM q b.toNat).2=false then .error 3 else match stepR d l st m b with
    | .error k=>.error k
    | .ok x=>.ok ((stepM q b.toNat).1,x)
theorem wrun_cons (d:Dl) (l:Lm) (q st:Int) (m:Mk) (p:Nat) (b:UInt8) (t:Str):wrun d l q st m p (b :: t)=match stepW d l q st m b with
    | .error k=>⟨[],k,p⟩
    | .ok x=>(wrun d l x.1 x.2.1 x.2.2.1 (p+1) t).pre (oneR x.2.2.2 p):=by
  unfold stepW
  rw [wrun]
  cases (stepM q b.toNat).2
  · rfl
  · simp only [Bool.true_eq_false,if_false]
    cases stepR d l st m b<;>rfl
def endW (l:Lm) (q st:Int) (m:Mk):Except Int (Option (List Str)):=if q≠0 then .error 12 else endR l st m
theorem wrun_nil (d:Dl) (l:Lm) (q st:Int) (m:Mk) (p:Nat):wrun d l q st m p []=match endW l q st m with
    | .error k=>⟨[],k,p⟩
    | .ok r=>⟨oneR r p,0,0⟩:=by
  unfold endW
  rw [wrun]
  split
  · rfl
  · cases endR l st m<;>rfl
theorem stepW_err {d:Dl} {l:Lm} {q st:Int} {m:Mk} {b:UInt8} {k:Int} (h:stepW d l q st m b=.error k):0 < k:=by
  unfold stepW at h
  split at h
  · injection h with h;omega
  · split at h
    · rename_i h2;injection h with h;subst h;exact step_err h2
    · simp at h
theorem endW_err {l:Lm} {q st:Int} {m:Mk} {k:Int} (h:endW l q st m=.error k):0 < k:=by
  unfold endW at h
  split at h
  · injection h with h;omega
  · exact end_err h
theorem stepW_bd {d:Dl} {l:Lm} {q st:Int} {m:Mk} {b:UInt8} {n:Nat} {x:Int×Int×Mk×Option (List Str)} (hb:bdM n m) (h:stepW d l q st m b=.ok x):bdM (n+3) x.2.2.1:=by
  unfold stepW at h
  split at h
  · simp at h
  · split at h
    · simp at h
    · rename_i y h2
      injection h with h;subst h
      unfold stepR at h2
      split at h2
      · simp at h2
      · split at h2
        · simp at h2
        · rename_i z h3
          injection h2 with h2;subst h2
          exact take_bd hb h3
def SRes (w0 w':World) (gw g:Nat) (d:Dl) (l:Lm) (M:List Chk) (res:Value):Except Int (Int×Int×Mk×Option (List Str))→Prop
  | .error k=>res=(.tuple #[.slice none 0 0,.bool false,I k])∧Sep w0 w' M
  | .ok (q',st',m',none)=>res=(.tuple #[.slice none 0 0,.bool false,I 0])∧WkS w0 w' gw g d l q' st' m' M
  | .ok (q',st',m',some r)=>∃ rv,res=.tuple #[rv,.bool true,I 0]∧WkS w0 w' gw g d l q' st' m' (accC rv 9 eS r :: M)
def c88:MC:=(.seq (.reg [qq 4 (.mv (.const (.slice none 0 0))),qq 5 (.mv (kb false)),qq 6 (.mv (ki 0))]) (.seq (.reg [qm 13 0,qq 14 (.nck (.tmp 13)),qq 15 (.fad 4 (.tmp 14)),qq 16 (.ld none (.tmp 15)),qm 17 1,qq 18 (.call 129 [(.tmp 16),(.tmp 17)]),qm 12 18,qq 19 (.ext 0 (.tmp 12)),qq 20 (.ext 1 (.tmp 12)),qm 7 19,qm 8 20]) (.seq (.seq (.reg [qm 21 8,qq 22 (.un .not (.tmp 21))]) (.cond (.tmp 22) (.seq (.reg [qq 4 (.mv (.const (.slice none 0 0))),qq 5 (.mv (kb false)),qq 6 (.mv (ki 3))]) .ret) .skip)) (.seq (.reg [qm 23 0,qm 24 7,qq 25 (.nck (.tmp 23)),qq 26 (.fad 4 (.tmp 25)),qn (.st 1 (.tmp 26) (.tmp 24))]) (.seq (.drg [qm 28 0,qq 29 (.nck (.tmp 28)),qq 30 (.fad 0 (.tmp 29)),qq 31 (.ld (.some 3) (.tmp 30)),qm 32 0,qq 33 (.nck (.tmp 32)),qq 34 (.fad 5 (.tmp 33)),qq 35 (.ld none (.tmp 34)),qm 36 1,qq 37 (.call 130 [(.tmp 31),(.tmp 35),(.tmp 36)]),qm 27 37,qq 38 (.ext 0 (.tmp 27)),qq 39 (.ext 1 (.tmp 27)),qq 40 (.ext 2 (.tmp 27)),qq 9 (.alc 197 [(.bool false),(.bool false),(.bool false),(.bool false),(.bool false),(.int .u8 0)]),qn (.st 6 (.tmp 9) (.tmp 38)),qm 10 39,qm 11 40] (.some (.br [qm 28 0,qq 29 (.nck (.tmp 28)),qq 30 (.fad 0 (.tmp 29)),qm 32 0,qq 33 (.nck (.tmp 32)),qq 34 (.fad 5 (.tmp 33)),qm 36 1] (.br [qq 31 (.ld (.some 3) (.tmp 30))] (.br [qq 35 (.ld none (.tmp 34))] (.leaf [qq 37 (.call 130 [(.tmp 31),(.tmp 35),(.tmp 36)]),qm 27 37,qq 38 (.ext 0 (.tmp 27)),qq 39 (.ext 1 (.tmp 27)),qq 40 (.ext 2 (.tmp 27)),qq 9 (.alc 197 [(.bool false),(.bool false),(.bool false),(.bool false),(.bool false),(.int .u8 0)]),qn (.st 6 (.tmp 9) (.tmp 38)),qm 10 39,qm 11 40]) (.leaf [qq 9 (.alc 197 [(.bool false),(.bool false),(.bool false),(.bool false),(.bool false),(.int .u8 0)]),qq 37 (.call 130 [(.tmp 31),(.tmp 35),(.tmp 36)]),qm 27 37,qq 38 (.ext 0 (.tmp 27)),qq 39 (.ext 1 (.tmp 27)),qq 40 (.ext 2 (.tmp 27)),qn (.st 6 (.tmp 9) (.tmp 38)),qm 10 39,qm 11 40])) (.leaf [qq 9 (.alc 197 [(.bool false),(.bool false),(.bool false),(.bool false),(.bool false),(.int .u8 0)]),qq 35 (.ld none (.tmp 34)),qq 37 (.call 130 [(.tmp 31),(.tmp 35),(.tmp 36)]),qm 27 37,qq 38 (.ext 0 (.tmp 27)),qq 39 (.ext 1 (.tmp 27)),qq 40 (.ext 2 (.tmp 27)),qn (.st 6 (.tmp 9) (.tmp 38)),qm 10 39,qm 11 40])) (.br [] (.br [qq 35 (.ld none (.tmp 34))] (.br [qq 31 (.ld (.some 3) (.tmp 30))] (.leaf [qq 37 (.call 130 [(.tmp 31),(.tmp 35),(.tmp 36)]),qm 27 37,qq 38 (.ext 0 (.tmp 27)),qq 39 (.ext 1 (.tmp 27)),qq 40 (.ext 2 (.tmp 27)),qq 9 (.alc 197 [(.bool false),(.bool false),(.bool false),(.bool false),(.bool false),(.int .u8 0)]),qn (.st 6 (.tmp 9) (.tmp 38)),qm 10 39,qm 11 40]) (.leaf [qq 9 (.alc 197 [(.bool false),(.bool false),(.bool false),(.bool false),(.bool false),(.int .u8 0)]),qq 37 (.call 130 [(.tmp 31),(.tmp 35),(.tmp 36)]),qm 27 37,qq 38 (.ext 0 (.tmp 27)),qq 39 (.ext 1 (.tmp 27)),qq 40 (.ext 2 (.tmp 27)),qn (.st 6 (.tmp 9) (.tmp 38)),qm 10 39,qm 11 40])) (.leaf [qq 9 (.alc 197 [(.bool false),(.bool false),(.bool false),(.bool false),(.bool false),(.int .u8 0)]),qq 31 (.ld (.some 3) (.tmp 30)),qq 37 (.call 130 [(.tmp 31),(.tmp 35),(.tmp 36)]),qm 27 37,qq 38 (.ext 0 (.tmp 27)),qq 39 (.ext 1 (.tmp 27)),qq 40 (.ext 2 (.tmp 27)),qn (.st 6 (.tmp 9) (.tmp 38)),qm 10 39,qm 11 40])) (.br [qq 9 (.alc 197 [(.bool false),(.bool false),(.bool false),(.bool false),(.bool false),(.int .u8 0)])] (.leaf [qq 31 (.ld (.some 3) (.tmp 30)),qq 35 (.ld none (.tmp 34)),qq 37 (.call 130 [(.tmp 31),(.tmp 35),(.tmp 36)]),qm 27 37,qq 38 (.ext 0 (.tmp 27)),qq 39 (.ext 1 (.tmp 27)),qq 40 (.ext 2 (.tmp 27)),qn (.st 6 (.tmp 9) (.tmp 38)),qm 10 39,qm 11 40]) (.leaf [qq 35 (.ld none (.tmp 34)),qq 31 (.ld (.some 3) (.tmp 30)),qq 37 (.call 130 [(.tmp 31),(.tmp 35),(.tmp 36)]),qm 27 37,qq 38 (.ext 0 (.tmp 27)),qq 39 (.ext 1 (.tmp 27)),qq 40 (.ext 2 (.tmp 27)),qn (.st 6 (.tmp 9) (.tmp 38)),qm 10 39,qm 11 40])))))) (.seq (.seq (.reg [qm 41 11,qq 42 (.bin .neq (.tmp 41) (ki 0))]) (.cond (.tmp 42) (.seq (.reg [qm 43 11,qq 4 (.mv (.const (.slice none 0 0))),qq 5 (.mv (kb false)),qm 6 43]) .ret) .skip)) (.seq (.reg [qm 44 0,qm 45 10,qq 46 (.nck (.tmp 44)),qq 47 (.fad 5 (.tmp 46)),qn (.st 1 (.tmp 47) (.tmp 45))]) (.seq (.drg [qm 48 0,qq 49 (.nck (.tmp 48)),qq 50 (.fad 3 (.tmp 49)),qq 51 (.ld none (.tmp 50)),qq 52 (.ld (.some 6) (.tmp 9)),qq 53 (.call 131 [(.tmp 51),(.tmp 52)]),qq 54 (.ext 0 (.tmp 53)),qq 55 (.ext 1 (.tmp 53)),qq 56 (.ext 2 (.tmp 53)),qm 4 54,qm 5 55,qm 6 56] (.some (.br [qm 48 0,qq 49 (.nck (.tmp 48)),qq 50 (.fad 3 (.tmp 49))] (.leaf [qq 51 (.ld none (.tmp 50)),qq 52 (.ld (.some 6) (.tmp 9)),qq 53 (.call 131 [(.tmp 51),(.tmp 52)]),qq 54 (.ext 0 (.tmp 53)),qq 55 (.ext 1 (.tmp 53)),qq 56 (.ext 2 (.tmp 53)),qm 4 54,qm 5 55,qm 6 56]) (.leaf [qq 52 (.ld (.some 6) (.tmp 9)),qq 51 (.ld none (.tmp 50)),qq 53 (.call 131 [(.tmp 51),(.tmp 52)]),qq 54 (.ext 0 (.tmp 53)),qq 55 (.ext 1 (.tmp 53)),qq 56 (.ext 2 (.tmp 53)),qm 4 54,qm 5 55,qm 6 56])))) .ret))))))))
theorem k88:conv Tryz.prog 57 (Tryz.f88.body.getD .skip)=c88:=by kernel_rfl
theorem in88 {a0 a1:Value} {w:World} {R:Value→World→Prop} (h:G Tryz.prog Tryz.f88 57 [.c c88] R (frL 0 [a0,a1]) w):Ret Tryz.prog 88 #[a0,a1] w R:=G.enter (args:=[a0,a1]) Tryz.func88 (c:=Tryz.f88.body.getD .skip) (by kernel_rfl) (by kernel_rfl) (by simp) k88 h
set_option maxHeartbeats 1000000 in
theorem wstep_spec {gw g:Nat} {d:Dl} {l:Lm} {q st:Int} {m:Mk} {b:UInt8} {M:List Chk} {w w0:World} (hM:WkS w0 w gw g d l q st m M) (hb:bdM 900000000 m) :
    Ret Tryz.prog 88 #[.pointer (some ⟨gw,0,none⟩),U b.toNat] w fun res w'=>SRes w0 w' gw g d l M res (stepW d l q st m b):=by
  refine in88 ?_
  obtain ⟨fv,rv,hS⟩:=hM
  unfold stepW
  cases hu:(stepM q b.toNat).2
  · rw [if_pos rfl]
    (have fct:=@hu;repeat' (first|((with_reducible apply G.a);exact rfl)|refine G.reg fun K hK=>?_|(with_reducible (refine hK _ _ ?_);clear hK K)|(with_reducible (refine hK _ ?_);clear hK K;intro wd hxd;have hS:=Sep.xx hxd)|((first|have hk:=hK|have hk:=hK2);clear hk;simp (disch:=first|exact dis|fail) only [push_cast,↓reduceIte,zq1,zq2,zq3,zq4,zq5,fct])|(refine zalc ?_;intro gb wb hS)|((with_reducible refine gSt ?_);refine zs2 ?_;intro wb hS)|(refine zcp 129 (step_spec _ _ _) ?_;intro wb hS)|(refine G.drt mixed fun K hK wd hxd=>?_;have hS:=Sep.xx hxd)|with_reducible refine OT_leaf ?_|(with_reducible (refine hK2 _ ?_);clear hK2 K2;intro wd hxd;have hS:=Sep.xx hxd)|with_reducible refine OT_br fun K2 hK2=>?_|(refine hK2 _ _ ?_ ?_<;>clear hK2 K2)|refine G.drg mixed fun K hK=>?_|(refine G.cn ?_ ?_<;>intro hc<;>first|(with_reducible exact False.elim hc)|(exfalso;omega)|skip)))<;>(try clear fct)
    all_goals
      (first|refine G.r1 ?_|refine G.r2 ?_|refine G.r3 ?_|refine G.r0 ?_|refine G.d0 ?_);(try simp (disch:=first|exact dis|fail) only [push_cast,↓reduceIte,zq1,zq2,zq3,zq4,zq5,fct])
      exact ⟨rfl,Sep.sub hS (by repeat first|exact Sub.rfl'|(refine Sub.c (by repeat constructor) ?_)|refine Sub.skip ?_)⟩
  · rw [if_neg (by simp)]
    unfold stepR
    by_cases hs:(scM d st b).2.2=0
    · rw [if_neg (by omega)]
      cases ht:takeM l m (scM d st b).1 with
      | error k =>
        have hk:=take_err ht
        (have fct:=(And.intro @hu @hs);repeat' (first|((with_reducible apply G.a);exact rfl)|refine G.reg fun K hK=>?_|(with_reducible (refine hK _ _ ?_);clear hK K)|(with_reducible (refine hK _ ?_);clear hK K;intro wd hxd;have hS:=Sep.xx hxd)|((first|have hk:=hK|have hk:=hK2);clear hk;simp (disch:=first|exact dis|fail) only [push_cast,↓reduceIte,zq1,zq2,zq3,zq4,zq5,fct])|(refine zalc ?_;intro gb wb hS)|((with_reducible refine gSt ?_);refine zs2 ?_;intro wb hS)|(refine zcp 129 (step_spec _ _ _) ?_;intro wb hS)|(refine zcp 130 (scStep_spec d st b _) ?_;intro wb hS)|((with_reducible (show CallK _ 131 _ _ _ _ _));have hx:=MkS.of (l:=l) (m:=m) hS (by repeat constructor) (by repeat constructor) (by repeat constructor);refine zco 131 (mtake_spec hx hb (sc_ev d st b)) ?_;clear hx;intro vb wb hG;rw [ht] at hG;obtain ⟨rfl,hS⟩:=hG)|(refine G.drt mixed fun K hK wd hxd=>?_;have hS:=Sep.xx hxd)|with_reducible refine OT_leaf ?_|(with_reducible (refine hK2 _ ?_);clear hK2 K2;intro wd hxd;have hS:=Sep.xx hxd)|with_reducible refine OT_br fun K2 hK2=>?_|(refine hK2 _ _ ?_ ?_<;>clear hK2 K2)|refine G.drg mixed fun K hK=>?_|(refine G.cn ?_ ?_<;>intro hc<;>first|(with_reducible exact False.elim hc)|(exfalso;omega)|skip)))<;>(try clear fct)
        all_goals
          (first|refine G.r1 ?_|refine G.r2 ?_|refine G.r3 ?_|refine G.r0 ?_|refine G.d0 ?_);(try simp (disch:=first|exact dis|fail) only [push_cast,↓reduceIte,zq1,zq2,zq3,zq4,zq5,fct])
          exact ⟨rfl,Sep.sub hS (by repeat first|exact Sub.rfl'|(refine Sub.c (by repeat constructor) ?_)|refine Sub.skip ?_)⟩
      | ok x =>
        obtain ⟨m2,o⟩:=x
        cases o with
        | none =>
          (have fct:=(And.intro @hu @hs);repeat' (first|((with_reducible apply G.a);exact rfl)|refine G.reg fun K hK=>?_|(with_reducible (refine hK _ _ ?_);clear hK K)|(with_reducible (refine hK _ ?_);clear hK K;intro wd hxd;have hS:=Sep.xx hxd)|((first|have hk:=hK|have hk:=hK2);clear hk;simp (disch:=first|exact dis|fail) only [push_cast,↓reduceIte,zq1,zq2,zq3,zq4,zq5,fct])|(refine zalc ?_;intro gb wb hS)|((with_reducible refine gSt ?_);refine zs2 ?_;intro wb hS)|(refine zcp 129 (step_spec _ _ _) ?_;intro wb hS)|(refine zcp 130 (scStep_spec d st b _) ?_;intro wb hS)|((with_reducible (show CallK _ 131 _ _ _ _ _));have hx:=MkS.of (l:=l) (m:=m) hS (by repeat constructor) (by repeat constructor) (by repeat constructor);refine zco 131 (mtake_spec hx hb (sc_ev d st b)) ?_;clear hx;intro vb wb hG;rw [ht] at hG;obtain ⟨rfl,fv2,rv2,hS⟩:=hG)|(refine G.drt mixed fun K hK wd hxd=>?_;have hS:=Sep.xx hxd)|with_reducible refine OT_leaf ?_|(with_reducible (refine hK2 _ ?_);clear hK2 K2;intro wd hxd;have hS:=Sep.xx hxd)|with_reducible refine OT_br fun K2 hK2=>?_|(refine hK2 _ _ ?_ ?_<;>clear hK2 K2)|refine G.drg mixed fun K hK=>?_|(refine G.cn ?_ ?_<;>intro hc<;>first|(with_reducible exact False.elim hc)|(exfalso;omega)|skip)))<;>(try clear fct)
          all_goals
            (first|refine G.r1 ?_|refine G.r2 ?_|refine G.r3 ?_|refine G.r0 ?_|refine G.d0 ?_);(try simp (disch:=first|exact dis|fail) only [push_cast,↓reduceIte,zq1,zq2,zq3,zq4,zq5,fct])
            exact ⟨rfl,fv2,rv2,Sep.sub hS (by repeat first|exact Sub.rfl'|(refine Sub.c (by repeat constructor) ?_)|refine Sub.skip ?_)⟩
        | some r =>
          (have fct:=(And.intro @hu @hs);repeat' (first|((with_reducible apply G.a);exact rfl)|refine G.reg fun K hK=>?_|(with_reducible (refine hK _ _ ?_);clear hK K)|(with_reducible (refine hK _ ?_);clear hK K;intro wd hxd;have hS:=Sep.xx hxd)|((first|have hk:=hK|have hk:=hK2);clear hk;simp (disch:=first|exact dis|fail) only [push_cast,↓reduceIte,zq1,zq2,zq3,zq4,zq5,fct])|(refine zalc ?_;intro gb wb hS)|((with_reducible refine gSt ?_);refine zs2 ?_;intro wb hS)|(refine zcp 129 (step_spec _ _ _) ?_;intro wb hS)|(refine zcp 130 (scStep_spec d st b _) ?_;intro wb hS)|((with_reducible (show CallK _ 131 _ _ _ _ _));have hx:=MkS.of (l:=l) (m:=m) hS (by repeat constructor) (by repeat constructor) (by repeat constructor);refine zco 131 (mtake_spec hx hb (sc_ev d st b)) ?_;clear hx;intro vb wb hG;rw [ht] at hG;obtain ⟨rv3,rfl,fv2,rv2,hS⟩:=hG)|(refine G.drt mixed fun K hK wd hxd=>?_;have hS:=Sep.xx hxd)|with_reducible refine OT_leaf ?_|(with_reducible (refine hK2 _ ?_);clear hK2 K2;intro wd hxd;have hS:=Sep.xx hxd)|with_reducible refine OT_br fun K2 hK2=>?_|(refine hK2 _ _ ?_ ?_<;>clear hK2 K2)|refine G.drg mixed fun K hK=>?_|(refine G.cn ?_ ?_<;>intro hc<;>first|(with_reducible exact False.elim hc)|(exfalso;omega)|skip)))<;>(try clear fct)
          all_goals
            (first|refine G.r1 ?_|refine G.r2 ?_|refine G.r3 ?_|refine G.r0 ?_|refine G.d0 ?_);(try simp (disch:=first|exact dis|fail) only [push_cast,↓reduceIte,zq1,zq2,zq3,zq4,zq5,fct])
            exact ⟨rv3,rfl,fv2,rv2,Sep.sub hS (by repeat first|exact Sub.rfl'|(refine Sub.c (by repeat constructor) ?_)|refine Sub.skip ?_)⟩
    · rw [if_pos hs]
      (have fct:=@hu;repeat' (first|((with_reducible apply G.a);exact rfl)|refine G.reg fun K hK=>?_|(with_reducible (refine hK _ _ ?_);clear hK K)|(with_reducible (refine hK _ ?_);clear hK K;intro wd hxd;have hS:=Sep.xx hxd)|((first|have hk:=hK|have hk:=hK2);clear hk;simp (disch:=first|exact dis|fail) only [push_cast,↓reduceIte,zq1,zq2,zq3,zq4,zq5,fct])|(refine zalc ?_;intro gb wb hS)|((with_reducible refine gSt ?_);refine zs2 ?_;intro wb hS)|(refine zcp 129 (step_spec _ _ _) ?_;intro wb hS)|(refine zcp 130 (scStep_spec d st b _) ?_;intro wb hS)|(refine G.drt mixed fun K hK wd hxd=>?_;have hS:=Sep.xx hxd)|with_reducible refine OT_leaf ?_|(with_reducible (refine hK2 _ ?_);clear hK2 K2;intro wd hxd;have hS:=Sep.xx hxd)|with_reducible refine OT_br fun K2 hK2=>?_|(refine hK2 _ _ ?_ ?_<;>clear hK2 K2)|refine G.drg mixed fun K hK=>?_|(refine G.cn ?_ ?_<;>intro hc<;>first|(with_reducible exact False.elim hc)|(exfalso;omega)|skip)))<;>(try clear fct)
      all_goals
        (first|refine G.r1 ?_|refine G.r2 ?_|refine G.r3 ?_|refine G.r0 ?_|refine G.d0 ?_);(try simp (disch:=first|exact dis|fail) only [push_cast,↓reduceIte,zq1,zq2,zq3,zq4,zq5,fct])
        exact ⟨rfl,Sep.sub hS (by repeat first|exact Sub.rfl'|(refine Sub.c (by repeat constructor) ?_)|refine Sub.skip ?_)⟩
def NRes (w0 w':World) (M:List Chk) (res:Value):Except Int (Option (List Str))→Prop
  | .error k=>res=(.tuple #[.slice none 0 0,.bool false,I k])∧Sep w0 w' M
  | .ok none=>res=(.tuple #[.slice none 0 0,.bool false,I 0])∧Sep w0 w' M
  | .ok (some r)=>∃ rv,res=.tuple #[rv,.bool true,I 0]∧Sep w0 w' (accC rv 9 eS r :: M)
def c89:MC:=(.seq (.reg [qq 2 (.mv (.const (.slice none 0 0))),qq 3 (.mv (kb false)),qq 4 (.mv (ki 0))]) (.seq (.seq (.reg [qm 7 0,qq 8 (.nck (.tmp 7)),qq 9 (.fad 4 (.tmp 8)),qq 10 (.ld none (.tmp 9)),qq 11 (.bin .neq (.tmp 10) (ki 0))]) (.cond (.tmp 11) (.seq (.reg [qq 2 (.mv (.const (.slice none 0 0))),qq 3 (.mv (kb false)),qq 4 (.mv (ki 12))]) .ret) .skip)) (.seq (.reg [qm 13 0,qq 14 (.nck (.tmp 13)),qq 15 (.fad 5 (.tmp 14)),qq 16 (.ld none (.tmp 15)),qq 17 (.call 132 [(.tmp 16)]),qm 12 17,qq 18 (.ext 0 (.tmp 12)),qq 19 (.ext 1 (.tmp 12)),qq 5 (.alc 197 [(.bool false),(.bool false),(.bool false),(.bool false),(.bool false),(.int .u8 0)]),qn (.st 6 (.tmp 5) (.tmp 18)),qm 6 19]) (.seq (.seq (.reg [qm 20 6,qq 21 (.bin .neq (.tmp 20) (ki 0))]) (.cond (.tmp 21) (.seq (.reg [qm 22 6,qq 2 (.mv (.const (.slice none 0 0))),qq 3 (.mv (kb false)),qm 4 22]) .ret) .skip)) (.seq (.drg [qm 23 0,qq 24 (.nck (.tmp 23)),qq 25 (.fad 3 (.tmp 24)),qq 26 (.ld none (.tmp 25)),qq 27 (.ld (.some 6) (.tmp 5)),qq 28 (.call 131 [(.tmp 26),(.tmp 27)]),qq 29 (.ext 0 (.tmp 28)),qq 30 (.ext 1 (.tmp 28)),qq 31 (.ext 2 (.tmp 28)),qm 2 29,qm 3 30,qm 4 31] (.some (.br [qm 23 0,qq 24 (.nck (.tmp 23)),qq 25 (.fad 3 (.tmp 24))] (.leaf [qq 26 (.ld none (.tmp 25)),qq 27 (.ld (.some 6) (.tmp 5)),qq 28 (.call 131 [(.tmp 26),(.tmp 27)]),qq 29 (.ext 0 (.tmp 28)),qq 30 (.ext 1 (.tmp 28)),qq 31 (.ext 2 (.tmp 28)),qm 2 29,qm 3 30,qm 4 31]) (.leaf [qq 27 (.ld (.some 6) (.tmp 5)),qq 26 (.ld none (.tmp 25)),qq 28 (.call 131 [(.tmp 26),(.tmp 27)]),qq 29 (.ext 0 (.tmp 28)),qq 30 (.ext 1 (.tmp 28)),qq 31 (.ext 2 (.tmp 28)),qm 2 29,qm 3 30,qm 4 31])))) .ret)))))
theorem k89:conv Tryz.prog 32 (Tryz.f89.body.getD .skip)=c89:=by kernel_rfl
theorem in89 {a0:Value} {w:World} {R:Value→World→Prop} (h:G Tryz.prog Tryz.f89 32 [.c c89] R (frL 0 [a0]) w):Ret Tryz.prog 89 #[a0] w R:=G.enter (args:=[a0]) Tryz.func89 (c:=Tryz.f89.body.getD .skip) (by kernel_rfl) (by kernel_rfl) (by simp) k89 h
set_option maxHeartbeats 1000000 in
theorem wend_spec {gw g:Nat} {d:Dl} {l:Lm} {q st:Int} {m:Mk} {M:List Chk} {w w0:World} (hM:WkS w0 w gw g d l q st m M) (hb:bdM 900000000 m) :
    Ret Tryz.prog 89 #[.pointer (some ⟨gw,0,none⟩)] w fun res w'=>NRes w0 w' M res (endW l q st m):=by
  refine in89 ?_
  obtain ⟨fv,rv,hS⟩:=hM
  unfold endW
  by_cases hq:q=0
  · rw [if_neg (by omega)]
    unfold endR
    by_cases hs:(closeM st).2=0
    · rw [if_neg (by omega)]
      cases ht:takeM l m (closeM st).1 with
      | error k =>
        have hk:=take_err ht
        (have fct:=(And.intro @hq @hs);repeat' (first|((with_reducible apply G.a);exact rfl)|refine G.reg fun K hK=>?_|(with_reducible (refine hK _ _ ?_);clear hK K)|(with_reducible (refine hK _ ?_);clear hK K;intro wd hxd;have hS:=Sep.xx hxd)|((first|have hk:=hK|have hk:=hK2);clear hk;simp (disch:=first|exact dis|fail) only [push_cast,↓reduceIte,zq1,zq2,zq3,zq4,zq5,fct])|(refine zalc ?_;intro gb wb hS)|((with_reducible refine gSt ?_);refine zs2 ?_;intro wb hS)|(refine zcp 132 (scClose_spec st _) ?_;intro wb hS)|((with_reducible (show CallK _ 131 _ _ _ _ _));have hx:=MkS.of (l:=l) (m:=m) hS (by repeat constructor) (by repeat constructor) (by repeat constructor);refine zco 131 (mtake_spec hx hb (close_ev st)) ?_;clear hx;intro vb wb hG;rw [ht] at hG;obtain ⟨rfl,hS⟩:=hG)|(refine G.drt mixed fun K hK wd hxd=>?_;have hS:=Sep.xx hxd)|with_reducible refine OT_leaf ?_|(with_reducible (refine hK2 _ ?_);clear hK2 K2;intro wd hxd;have hS:=Sep.xx hxd)|with_reducible refine OT_br fun K2 hK2=>?_|(refine hK2 _ _ ?_ ?_<;>clear hK2 K2)|refine G.drg mixed fun K hK=>?_|(refine G.cn ?_ ?_<;>intro hc<;>first|(with_reducible exact False.elim hc)|(exfalso;omega)|skip)))<;>(try clear fct)
        all_goals
          (first|refine G.r1 ?_|refine G.r2 ?_|refine G.r3 ?_|refine G.r0 ?_|refine G.d0 ?_);(try simp (disch:=first|exact dis|fail) only [push_cast,↓reduceIte,zq1,zq2,zq3,zq4,zq5,fct])
          exact ⟨rfl,Sep.sub hS (by repeat first|exact Sub.rfl'|(refine Sub.c (by repeat constructor) ?_)|refine Sub.skip ?_)⟩
      | ok x =>
        obtain ⟨m2,o⟩:=x
        cases o with
        | none =>
          (have fct:=(And.intro @hq @hs);repeat' (first|((with_reducible apply G.a);exact rfl)|refine G.reg fun K hK=>?_|(with_reducible (refine hK _ _ ?_);clear hK K)|(with_reducible (refine hK _ ?_);clear hK K;intro wd hxd;have hS:=Sep.xx hxd)|((first|have hk:=hK|have hk:=hK2);clear hk;simp (disch:=first|exact dis|fail) only [push_cast,↓reduceIte,zq1,zq2,zq3,zq4,zq5,fct])|(refine zalc ?_;intro gb wb hS)|((with_reducible refine gSt ?_);refine zs2 ?_;intro wb hS)|(refine zcp 132 (scClose_spec st _) ?_;intro wb hS)|((with_reducible (show CallK _ 131 _ _ _ _ _));have hx:=MkS.of (l:=l) (m:=m) hS (by repeat constructor) (by repeat constructor) (by repeat constructor);refine zco 131 (mtake_spec hx hb (close_ev st)) ?_;clear hx;intro vb wb hG;rw [ht] at hG;obtain ⟨rfl,fv2,rv2,hS⟩:=hG)|(refine G.drt mixed fun K hK wd hxd=>?_;have hS:=Sep.xx hxd)|with_reducible refine OT_leaf ?_|(with_reducible (refine hK2 _ ?_);clear hK2 K2;intro wd hxd;have hS:=Sep.xx hxd)|with_reducible refine OT_br fun K2 hK2=>?_|(refine hK2 _ _ ?_ ?_<;>clear hK2 K2)|refine G.drg mixed fun K hK=>?_|(refine G.cn ?_ ?_<;>intro hc<;>first|(with_reducible exact False.elim hc)|(exfalso;omega)|skip)))<;>(try clear fct)
          all_goals
            (first|refine G.r1 ?_|refine G.r2 ?_|refine G.r3 ?_|refine G.r0 ?_|refine G.d0 ?_);(try simp (disch:=first|exact dis|fail) only [push_cast,↓reduceIte,zq1,zq2,zq3,zq4,zq5,fct])
            exact ⟨rfl,Sep.sub hS (by repeat first|exact Sub.rfl'|(refine Sub.c (by repeat constructor) ?_)|refine Sub.skip ?_)⟩
        | some r =>
          (have fct:=(And.intro @hq @hs);repeat' (first|((with_reducible apply G.a);exact rfl)|refine G.reg fun K hK=>?_|(with_reducible (refine hK _ _ ?_);clear hK K)|(with_reducible (refine hK _ ?_);clear hK K;intro wd hxd;have hS:=Sep.xx hxd)|((first|have hk:=hK|have hk:=hK2);clear hk;simp (disch:=first|exact dis|fail) only [push_cast,↓reduceIte,zq1,zq2,zq3,zq4,zq5,fct])|(refine zalc ?_;intro gb wb hS)|((with_reducible refine gSt ?_);refine zs2 ?_;intro wb hS)|(refine zcp 132 (scClose_spec st _) ?_;intro wb hS)|((with_reducible (show CallK _ 131 _ _ _ _ _));have hx:=MkS.of (l:=l) (m:=m) hS (by repeat constructor) (by repeat constructor) (by repeat constructor);refine zco 131 (mtake_spec hx hb (close_ev st)) ?_;clear hx;intro vb wb hG;rw [ht] at hG;obtain ⟨rv3,rfl,fv2,rv2,hS⟩:=hG)|(refine G.drt mixed fun K hK wd hxd=>?_;have hS:=Sep.xx hxd)|with_reducible refine OT_leaf ?_|(with_reducible (refine hK2 _ ?_);clear hK2 K2;intro wd hxd;have hS:=Sep.xx hxd)|with_reducible refine OT_br fun K2 hK2=>?_|(refine hK2 _ _ ?_ ?_<;>clear hK2 K2)|refine G.drg mixed fun K hK=>?_|(refine G.cn ?_ ?_<;>intro hc<;>first|(with_reducible exact False.elim hc)|(exfalso;omega)|skip)))<;>(try clear fct)
          all_goals
            (first|refine G.r1 ?_|refine G.r2 ?_|refine G.r3 ?_|refine G.r0 ?_|refine G.d0 ?_);(try simp (disch:=first|exact dis|fail) only [push_cast,↓reduceIte,zq1,zq2,zq3,zq4,zq5,fct])
            exact ⟨rv3,rfl,Sep.sub hS (by repeat first|exact Sub.rfl'|(refine Sub.c (by repeat constructor) ?_)|refine Sub.skip ?_)⟩
    · rw [if_pos hs]
      (have fct:=@hq;repeat' (first|((with_reducible apply G.a);exact rfl)|refine G.reg fun K hK=>?_|(with_reducible (refine hK _ _ ?_);clear hK K)|(with_reducible (refine hK _ ?_);clear hK K;intro wd hxd;have hS:=Sep.xx hxd)|((first|have hk:=hK|have hk:=hK2);clear hk;simp (disch:=first|exact dis|fail) only [push_cast,↓reduceIte,zq1,zq2,zq3,zq4,zq5,fct])|(refine zalc ?_;intro gb wb hS)|((with_reducible refine gSt ?_);refine zs2 ?_;intro wb hS)|(refine zcp 132 (scClose_spec st _) ?_;intro wb hS)|(refine G.drt mixed fun K hK wd hxd=>?_;have hS:=Sep.xx hxd)|with_reducible refine OT_leaf ?_|(with_reducible (refine hK2 _ ?_);clear hK2 K2;intro wd hxd;have hS:=Sep.xx hxd)|with_reducible refine OT_br fun K2 hK2=>?_|(refine hK2 _ _ ?_ ?_<;>clear hK2 K2)|refine G.drg mixed fun K hK=>?_|(refine G.cn ?_ ?_<;>intro hc<;>first|(with_reducible exact False.elim hc)|(exfalso;omega)|skip)))<;>(try clear fct)
      all_goals
        (first|refine G.r1 ?_|refine G.r2 ?_|refine G.r3 ?_|refine G.r0 ?_|refine G.d0 ?_);(try simp (disch:=first|exact dis|fail) only [push_cast,↓reduceIte,zq1,zq2,zq3,zq4,zq5,fct])
        exact ⟨rfl,Sep.sub hS (by repeat first|exact Sub.rfl'|(refine Sub.c (by repeat constructor) ?_)|refine Sub.skip ?_)⟩
  · rw [if_pos hq]
    repeat' (first|((with_reducible apply G.a);exact rfl)|refine G.reg fun K hK=>?_|(with_reducible (refine hK _ _ ?_);clear hK K)|(with_reducible (refine hK _ ?_);clear hK K;intro wd hxd;have hS:=Sep.xx hxd)|((first|have hk:=hK|have hk:=hK2);clear hk;simp (disch:=first|exact dis|fail) only [push_cast,↓reduceIte,zq1,zq2,zq3,zq4,zq5,fct])|(refine zalc ?_;intro gb wb hS)|((with_reducible refine gSt ?_);refine zs2 ?_;intro wb hS)|(refine G.drt mixed fun K hK wd hxd=>?_;have hS:=Sep.xx hxd)|with_reducible refine OT_leaf ?_|(with_reducible (refine hK2 _ ?_);clear hK2 K2;intro wd hxd;have hS:=Sep.xx hxd)|with_reducible refine OT_br fun K2 hK2=>?_|(refine hK2 _ _ ?_ ?_<;>clear hK2 K2)|refine G.drg mixed fun K hK=>?_|(refine G.cn ?_ ?_<;>intro hc<;>first|(with_reducible exact False.elim hc)|(exfalso;omega)|skip))
    all_goals
      (first|refine G.r1 ?_|refine G.r2 ?_|refine G.r3 ?_|refine G.r0 ?_|refine G.d0 ?_);(try simp (disch:=first|exact dis|fail) only [push_cast,↓reduceIte,zq1,zq2,zq3,zq4,zq5,fct])
      exact ⟨rfl,Sep.sub hS (by repeat first|exact Sub.rfl'|(refine Sub.c (by repeat constructor) ?_)|refine Sub.skip ?_)⟩
end Go.Proofs.YtllanbmpacgigaaGreatDoor
