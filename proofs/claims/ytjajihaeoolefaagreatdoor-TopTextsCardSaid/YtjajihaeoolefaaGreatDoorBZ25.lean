/- Texts of the proof, joined. -/
import Derived.Test.YtjajihaeoolefaaGreatDoorBX25
namespace Go.Proofs.YtjajihaeoolefaaGreatDoor
open Nat renaming reduceAdd→zq1,reduceLeDiff→zq2,reduceEqDiff→zq3,reduceLT→zq4
open Int renaming reduceToNat→zq5
set_option linter.unusedSimpArgs false
set_option linter.unusedVariables false
attribute [local irreducible] SemK UnitK StK AlcK BslK CallK CallV Instr.box Builtin.append_ Instr.makeSlice Instr.makeMap Instr.lookup Instr.mapUpdate Instr.sliceAt convert
open Go.RowKit
def eCg:Enc (Int×Value×Value):=⟨3,fun c=>[I c.1,c.2.1,c.2.2],fun _=>rfl⟩
instance : EncSz eCg 3 := ⟨rfl⟩
theorem eCg_f (c:Int×Value×Value):eCg.f c=[I c.1,c.2.1,c.2.2]:=rfl
attribute [push_cast] eCg_f
def RdCs (w:World) (v:Value) (cs:List Chg):Prop :=
  ∃ vs:List (Int×Value×Value),Rd w eCg v vs∧vs.length=cs.length∧∀ i,i < vs.length→(vs.getD i default).1=(cs.getD i default).kind∧Rd w eVal (vs.getD i default).2.1 (cs.getD i default).old∧Rd w eVal (vs.getD i default).2.2 (cs.getD i default).new
theorem RdCs.ext {w w':World} {v:Value} {cs:List Chg} (h:RdCs w v cs) (hx:Ext w w'):RdCs w' v cs:=by
  obtain ⟨vs,h1,h2,h3⟩:=h
  exact ⟨vs,h1.ext hx,h2,fun i hi=>⟨(h3 i hi).1,(h3 i hi).2.1.ext hx,(h3 i hi).2.2.ext hx⟩⟩
def c39:MC:=(.seq (.reg [qq 2 (.raw (.box 86 (.tmp 0)) 0),qq 4 (.mv (.const (S [])))]) (.seq (.seq (.reg [qq 5 (.fad 0 (.tmp 2)),qq 6 (.ld none (.tmp 5)),qq 7 (.bin .eql (.tmp 6) (ki 3))]) (.cond (.tmp 7) (.seq (.reg [qq 8 (.fad 2 (.tmp 2)),qq 9 (.ld none (.tmp 8)),qm 10 1,qq 11 (.call 38 [(.tmp 9),(.tmp 10)]),qm 4 11]) .ret) .skip)) (.seq (.reg [qq 12 (.fad 1 (.tmp 2)),qq 13 (.ld none (.tmp 12)),qm 14 1,qq 15 (.call 38 [(.tmp 13),(.tmp 14)]),qm 4 15]) .ret)))
theorem k39:conv Tryz.prog 16 (Tryz.f39.body.getD .skip)=c39:=by kernel_rfl
theorem in39 {a0 a1:Value} {w:World} {R:Value→World→Prop} (h:G Tryz.prog Tryz.f39 16 [.c c39] R (frL 0 [a0,a1]) w):Ret Tryz.prog 39 #[a0,a1] w R:=G.enter (args:=[a0,a1]) Tryz.func39 (c:=Tryz.f39.body.getD .skip) (by kernel_rfl) (by kernel_rfl) (by simp) k39 h
theorem key_spec {vo vn vp:Value} {c:Chg} {ps:List Int} {w:World} (ho:Rd w eVal vo c.old) (hn:Rd w eVal vn c.new) (hp:Rd w eI vp ps) (fo:FineV c.old) (fn:FineV c.new) (po:c.kind≠3→FineP ps c.old.length) (pn:c.kind=3→FineP ps c.new.length) (hT:Tab w) :
    Pu Tryz.prog 39 #[.agg #[I c.kind,vo,vn],vp] w (S (keyM ps c)):=by
  refine in39 ?_
  have hS:=Sep.start w
  unfold keyM
  by_cases hk:c.kind=3
  · rw [if_pos hk]
    have hm:=fun (w2:World) (hx:Ext w w2)=>markw_spec (w:=w2) (hn.ext hx) (hp.ext hx) fn (pn hk) (hT.ext hx)
    generalize markM tailW c.new ps=m at hm
    (have fct:=@hk;repeat' (first|((with_reducible apply G.a);exact rfl)|refine G.reg fun K hK=>?_|(with_reducible (refine hK _ _ ?_);clear hK K)|(have hk:=hK;clear hk;simp (disch:=first|exact dis|fail) only [push_cast,↓reduceIte,zq1,zq2,zq3,zq4,zq5,fct])|(((with_reducible refine gBox ?_);refine zbox ?_);intro gb wb hS)|(refine zcp 38 (hm _ hS.x) ?_;intro wb hS)|(refine G.cn ?_ ?_<;>intro hc<;>first|(with_reducible exact False.elim hc)|(exfalso;omega)|skip)))<;>(try clear fct)
    all_goals
      (first|refine G.r1 ?_|refine G.r2 ?_|refine G.r3 ?_|refine G.r0 ?_|refine G.d0 ?_);(try simp (disch:=first|exact dis|fail) only [push_cast,↓reduceIte,zq1,zq2,zq3,zq4,zq5,fct])
      (first|exact Sep.xt (by assumption)|exact ⟨rfl,Sep.xt (by assumption)⟩)
  · rw [if_neg hk]
    have hm:=fun (w2:World) (hx:Ext w w2)=>markw_spec (w:=w2) (ho.ext hx) (hp.ext hx) fo (po hk) (hT.ext hx)
    generalize markM tailW c.old ps=m at hm
    repeat' (first|((with_reducible apply G.a);exact rfl)|refine G.reg fun K hK=>?_|(with_reducible (refine hK _ _ ?_);clear hK K)|(have hk:=hK;clear hk;simp (disch:=first|exact dis|fail) only [push_cast,↓reduceIte,zq1,zq2,zq3,zq4,zq5,fct])|(((with_reducible refine gBox ?_);refine zbox ?_);intro gb wb hS)|(refine zcp 38 (hm _ hS.x) ?_;intro wb hS)|(refine G.cn ?_ ?_<;>intro hc<;>first|(with_reducible exact False.elim hc)|(exfalso;omega)|skip))
    all_goals
      (first|refine G.r1 ?_|refine G.r2 ?_|refine G.r3 ?_|refine G.r0 ?_|refine G.d0 ?_);(try simp (disch:=first|exact dis|fail) only [push_cast,↓reduceIte,zq1,zq2,zq3,zq4,zq5,fct])
      (first|exact Sep.xt (by assumption)|exact ⟨rfl,Sep.xt (by assumption)⟩)
noncomputable def tailO (n:Int) (ps:List Int) (rs:List (List Val)) (q:Prop):Int :=
  if rs.any (fun r=>!decide ((r.length:Int)=n))=true then 10 else if rs.any (fun r=>nullM r ps)=true then 20 else @ite Int q (Classical.propDecidable q) 21 0
theorem tailO_1 {n:Int} {ps:List Int} {c:Chg} (h:c.kind=1) (h2:¬ 0 < (c.new.length:Int)):oneM n ps c=tailO n ps [c.old] (c.kind=2∧markM tailW c.old ps≠markM tailW c.new ps):=by
  have h3:c.new=[]:=List.length_eq_zero_iff.1 (by omega)
  unfold oneM tailO
  by_cases a:(c.old.length:Int)=n<;>cases b:nullM c.old ps<;>simp [h,h3,a,b]
theorem tailO_3 {n:Int} {ps:List Int} {c:Chg} (h:c.kind=3) (h2:¬ 0 < (c.old.length:Int)):oneM n ps c=tailO n ps [c.new] (c.kind=2∧markM tailW c.old ps≠markM tailW c.new ps):=by
  have h3:c.old=[]:=List.length_eq_zero_iff.1 (by omega)
  unfold oneM tailO
  by_cases a:(c.new.length:Int)=n<;>cases b:nullM c.new ps<;>simp [h,h3,a,b]
theorem tailO_2 {n:Int} {ps:List Int} {c:Chg} (h:c.kind=2):oneM n ps c=tailO n ps [c.old,c.new] (c.kind=2∧markM tailW c.old ps≠markM tailW c.new ps):=by
  unfold oneM tailO
  by_cases a:(c.old.length:Int)=n<;>by_cases a2:(c.new.length:Int)=n<;>cases b:nullM c.old ps<;>cases b2:nullM c.new ps<;>simp [h,a,b,a2,b2]
theorem any_dropS {α:Type} [Inhabited α] (p:α→Bool) (l:List α) (k:Nat) (h:(k:Int) < l.length):(l.drop k).any p=(p (l.getD k default) || (l.drop (k+1)).any p):=by
  rw [dropD _ _ h,List.any_cons]
def c65l1:MC:=(.seq (.reg [qq 63 (.bin .lss (.tmp 62) (.tmp 61))]) (.seq (.cond (.tmp 63) .skip (.exit 0)) (.seq (.blk 1 (.seq (.reg [qq 64 (.adr 1 (.tmp 60) (.tmp 62)),qq 65 (.ld none (.tmp 64)),qm 9 65]) (.seq (.reg [qm 66 9,qq 67 (.len (.tmp 66)),qm 68 0,qq 69 (.len (.tmp 68)),qq 70 (.bin .neq (.tmp 67) (.tmp 69))]) (.cond (.tmp 70) (.seq (.reg [qq 6 (.mv (ki 10))]) .ret) .skip)))) (.reg [qq 71 (.bin .add (.tmp 62) (ki 1)),qm 62 71]))))
def c65l2:MC:=(.seq (.reg [qq 81 (.bin .lss (.tmp 80) (.tmp 79))]) (.seq (.cond (.tmp 81) .skip (.exit 4)) (.seq (.blk 5 (.seq (.reg [qq 82 (.adr 1 (.tmp 78) (.tmp 80)),qq 83 (.ld none (.tmp 82)),qm 13 83]) (.seq (.reg [qm 84 11,qm 85 13,qq 86 (.adr 4 (.tmp 84) (.tmp 85)),qq 87 (.fad 0 (.tmp 86)),qq 88 (.ld none (.tmp 87)),qq 89 (.bin .eql (.tmp 88) (ki 0))]) (.cond (.tmp 89) (.seq (.reg [qq 6 (.mv (ki 20))]) .ret) .skip)))) (.reg [qq 90 (.bin .add (.tmp 80) (ki 1)),qm 80 90]))))
def c65l3:MC:=(.seq (.reg [qq 75 (.bin .lss (.tmp 74) (.tmp 73))]) (.seq (.cond (.tmp 75) .skip (.exit 2)) (.seq (.blk 3 (.seq (.reg [qq 76 (.adr 1 (.tmp 72) (.tmp 74)),qq 77 (.ld none (.tmp 76)),qm 11 77]) (.seq (.reg [qm 78 1,qq 79 (.len (.tmp 78)),qq 80 (.mv (ki 0))]) (.blk 4 (.loop c65l2))))) (.reg [qq 91 (.bin .add (.tmp 74) (ki 1)),qm 74 91]))))
def c65:MC:=(.seq (.reg [qq 5 (.raw (.box 86 (.tmp 2)) 0),qq 6 (.mv (ki 0))]) (.seq (.seq (.reg [qq 14 (.fad 0 (.tmp 5)),qq 15 (.ld none (.tmp 14)),qq 16 (.bin .lss (.tmp 15) (ki 1)),qm 17 16,qf 17 18 (.fad 0 (.tmp 5)),qf 17 19 (.ld none (.tmp 18)),qf 17 20 (.bin .gtr (.tmp 19) (ki 3)),qq 21 (.pick (.tmp 17) (kb true) (.tmp 20)),qm 22 21,qf 22 23 (.fad 0 (.tmp 5)),qf 22 24 (.ld none (.tmp 23)),qf 22 25 (.bin .eql (.tmp 24) (ki 3)),qmf 22 26 25,qt 26 27 (.fad 1 (.tmp 5)),qt 26 28 (.ld none (.tmp 27)),qt 26 29 (.len (.tmp 28)),qt 26 30 (.bin .gtr (.tmp 29) (ki 0)),qf 22 31 (.pick (.tmp 26) (.tmp 30) (kb false)),qq 32 (.pick (.tmp 22) (kb true) (.tmp 31)),qm 33 32,qf 33 34 (.fad 0 (.tmp 5)),qf 33 35 (.ld none (.tmp 34)),qf 33 36 (.bin .eql (.tmp 35) (ki 1)),qmf 33 37 36,qt 37 38 (.fad 2 (.tmp 5)),qt 37 39 (.ld none (.tmp 38)),qt 37 40 (.len (.tmp 39)),qt 37 41 (.bin .gtr (.tmp 40) (ki 0)),qf 33 42 (.pick (.tmp 37) (.tmp 41) (kb false)),qq 43 (.pick (.tmp 33) (kb true) (.tmp 42))]) (.cond (.tmp 43) (.seq (.reg [qq 6 (.mv (ki 22))]) .ret) .skip)) (.seq (.reg [qq 7 (.mv (.const (.slice none 0 0)))]) (.seq (.seq (.reg [qq 44 (.fad 0 (.tmp 5)),qq 45 (.ld none (.tmp 44)),qq 46 (.bin .neq (.tmp 45) (ki 3))]) (.cond (.tmp 46) (.reg [qm 47 7,qq 48 (.fad 1 (.tmp 5)),qq 49 (.ld none (.tmp 48)),qq 50 (.bsl 79 [(.slice none 0 0)] 1 [⟨0,⟨1,(.tmp 49)⟩⟩]),qq 51 (.raw (.call ⟨(.builtin .append),#[(.tmp 47),(.tmp 50)],#[25,25]⟩) 25),qm 7 51]) .skip)) (.seq (.seq (.reg [qq 52 (.fad 0 (.tmp 5)),qq 53 (.ld none (.tmp 52)),qq 54 (.bin .neq (.tmp 53) (ki 1))]) (.cond (.tmp 54) (.reg [qm 55 7,qq 56 (.fad 2 (.tmp 5)),qq 57 (.ld none (.tmp 56)),qq 58 (.bsl 79 [(.slice none 0 0)] 1 [⟨0,⟨1,(.tmp 57)⟩⟩]),qq 59 (.raw (.call ⟨(.builtin .append),#[(.tmp 55),(.tmp 58)],#[25,25]⟩) 25),qm 7 59]) .skip)) (.seq (.seq (.reg [qm 60 7,qq 61 (.len (.tmp 60)),qq 62 (.mv (ki 0))]) (.blk 0 (.loop c65l1))) (.seq (.seq (.reg [qm 72 7,qq 73 (.len (.tmp 72)),qq 74 (.mv (ki 0))]) (.blk 2 (.loop c65l3))) (.seq (.seq (.drg [qq 92 (.fad 0 (.tmp 5)),qq 93 (.ld none (.tmp 92)),qq 94 (.bin .eql (.tmp 93) (ki 2)),qm 95 94,qt 95 96 (.fad 1 (.tmp 5)),qt 95 97 (.ld none (.tmp 96)),qmt 95 98 1,qt 95 99 (.call 38 [(.tmp 97),(.tmp 98)]),qt 95 100 (.fad 2 (.tmp 5)),qt 95 101 (.ld none (.tmp 100)),qmt 95 102 1,qt 95 103 (.call 38 [(.tmp 101),(.tmp 102)]),qt 95 104 (.bin .neq (.tmp 99) (.tmp 103)),qq 105 (.pick (.tmp 95) (.tmp 104) (kb false))] (.some (.br [qq 92 (.fad 0 (.tmp 5)),qq 93 (.ld none (.tmp 92)),qq 94 (.bin .eql (.tmp 93) (ki 2)),qm 95 94,qt 95 96 (.fad 1 (.tmp 5)),qmt 95 98 1,qt 95 100 (.fad 2 (.tmp 5)),qmt 95 102 1] (.br [qt 95 97 (.ld none (.tmp 96))] (.leaf [qt 95 99 (.call 38 [(.tmp 97),(.tmp 98)]),qt 95 101 (.ld none (.tmp 100)),qt 95 103 (.call 38 [(.tmp 101),(.tmp 102)]),qt 95 104 (.bin .neq (.tmp 99) (.tmp 103)),qq 105 (.pick (.tmp 95) (.tmp 104) (kb false))]) (.leaf [qt 95 101 (.ld none (.tmp 100)),qt 95 99 (.call 38 [(.tmp 97),(.tmp 98)]),qt 95 103 (.call 38 [(.tmp 101),(.tmp 102)]),qt 95 104 (.bin .neq (.tmp 99) (.tmp 103)),qq 105 (.pick (.tmp 95) (.tmp 104) (kb false))])) (.leaf [qt 95 101 (.ld none (.tmp 100)),qt 95 97 (.ld none (.tmp 96)),qt 95 99 (.call 38 [(.tmp 97),(.tmp 98)]),qt 95 103 (.call 38 [(.tmp 101),(.tmp 102)]),qt 95 104 (.bin .neq (.tmp 99) (.tmp 103)),qq 105 (.pick (.tmp 95) (.tmp 104) (kb false))])))) (.cond (.tmp 105) (.seq (.reg [qq 6 (.mv (ki 21))]) .ret) .skip)) (.seq (.reg [qq 6 (.mv (ki 0))]) .ret)))))))))
theorem k65:conv Tryz.prog 106 (Tryz.f65.body.getD .skip)=c65:=by kernel_rfl
theorem in65 {a0 a1 a2:Value} {w:World} {R:Value→World→Prop} (h:G Tryz.prog Tryz.f65 106 [.c c65] R (frL 0 [a0,a1,a2]) w):Ret Tryz.prog 65 #[a0,a1,a2] w R:=G.enter (args:=[a0,a1,a2]) Tryz.func65 (c:=Tryz.f65.body.getD .skip) (by kernel_rfl) (by kernel_rfl) (by simp) k65 h
set_option maxHeartbeats 1000000 in
theorem pone_spec {vl vo vn vp:Value} {l:List Col} {c:Chg} {ps:List Int} {w:World} (h0:Rd w eC vl l) (ho:Rd w eVal vo c.old) (hn:Rd w eVal vn c.new) (hp:Rd w eI vp ps) (fo:FineV c.old) (fn:FineV c.new) (hpp:FineP ps l.length) (hT:Tab w) :
    Pu Tryz.prog 65 #[vl,vp,.agg #[I c.kind,vo,vn]] w (I (oneM l.length ps c)):=by
  refine in65 ?_
  have hS:=Sep.start w
  have hbd:=h0.bd
  have hbo:=ho.bd
  have hbn:=hn.bd
  have hbp:=hp.bd
  by_cases h22:c.kind < 1∨3 < c.kind∨(c.kind=3∧0 < (c.old.length:Int))∨(c.kind=1∧0 < (c.new.length:Int))
  · have hD:oneM l.length ps c=22:=by unfold oneM;rw [if_pos h22]
    rw [hD]
    rcases h22 with h|h|⟨h,h'⟩|⟨h,h'⟩
    all_goals
      repeat' (first|((with_reducible apply G.a);exact rfl)|refine G.reg fun K hK=>?_|(with_reducible (refine hK _ _ ?_);clear hK K)|(with_reducible (refine hK _ ?_);clear hK K;intro wd hxd;have hS:=Sep.xx hxd)|((first|have hk:=hK|have hk:=hK2);clear hk;simp (disch:=first|exact dis|fail) only [push_cast,↓reduceIte,zq1,zq2,zq3,zq4,zq5,fct])|((first|refine brO_n ?_ ?_|refine brQ_n ?_ ?_)<;>intro hb hc<;>first|(with_reducible exact False.elim hc)|(exfalso;omega)|(simp only [hb];clear hb))|((first|refine zbsl ?_|((with_reducible refine gBox ?_);refine zbox ?_));intro gb wb hS)|(refine G.drt mixed fun K hK wd hxd=>?_;have hS:=Sep.xx hxd)|with_reducible refine OT_leaf ?_|(with_reducible (refine hK2 _ ?_);clear hK2 K2;intro wd hxd;have hS:=Sep.xx hxd)|with_reducible refine OT_br fun K2 hK2=>?_|(refine hK2 _ _ ?_ ?_<;>clear hK2 K2)|refine G.drg mixed fun K hK=>?_|(refine G.cn ?_ ?_<;>intro hc<;>first|(with_reducible exact False.elim hc)|(exfalso;omega)|skip))
      all_goals
        (first|refine G.r1 ?_|refine G.r2 ?_|refine G.r3 ?_|refine G.r0 ?_|refine G.d0 ?_);(try simp (disch:=first|exact dis|fail) only [push_cast,↓reduceIte,zq1,zq2,zq3,zq4,zq5,fct])
        (first|exact Sep.xt (by assumption)|exact ⟨rfl,Sep.xt (by assumption)⟩)
  · obtain ⟨us, rs, hus,hrs,hr2,hD,hcase⟩:∃ (us:List Value) (rs:List (List Val)),us.length=rs.length∧(∀ i,i < us.length→Rd w eVal (us.getD i default) (rs.getD i []))∧(c.kind=2→rs=[c.old,c.new])∧oneM l.length ps c=tailO l.length ps rs (c.kind=2∧markM tailW c.old ps≠markM tailW c.new ps) ∧
        ((c.kind=1∧us=[vo])∨(c.kind=2∧us=[vo,vn])∨(c.kind=3∧us=[vn])):=by
      rcases (show c.kind=1∨c.kind=2∨c.kind=3 by omega) with h|h|h
      · exact ⟨[vo],[c.old],rfl,fun i hi=>by cases i with|zero=>exact ho|succ i=>(exfalso;simp only [List.length_cons,List.length_nil] at hi;omega),fun e=>by omega,tailO_1 h (by omega),.inl ⟨h,rfl⟩⟩
      · exact ⟨[vo,vn],[c.old,c.new],rfl,fun i hi=>by cases i with|zero=>exact ho|succ i=>cases i with|zero=>exact hn|succ i=>(exfalso;simp only [List.length_cons,List.length_nil] at hi;omega),fun _=>rfl,tailO_2 h,.inr (.inl ⟨h,rfl⟩)⟩
      · exact ⟨[vn],[c.new],rfl,fun i hi=>by cases i with|zero=>exact hn|succ i=>(exfalso;simp only [List.length_cons,List.length_nil] at hi;omega),fun e=>by omega,tailO_3 h (by omega),.inr (.inr ⟨h,rfl⟩)⟩
    rw [hD]
    have hul:us.length≤2:=by rcases hcase with ⟨_,rfl⟩|⟨_,rfl⟩|⟨_,rfl⟩<;>simp
    have hS:=hS.nil 79 eV
    rcases hcase with ⟨hk,he⟩|⟨hk,he⟩|⟨hk,he⟩
    all_goals
      (have fct:=@hk;repeat' (first|((with_reducible apply G.a);exact rfl)|refine G.reg fun K hK=>?_|(with_reducible (refine hK _ _ ?_);clear hK K)|(with_reducible (refine hK _ ?_);clear hK K;intro wd hxd;have hS:=Sep.xx hxd)|((first|have hk:=hK|have hk:=hK2);clear hk;simp (disch:=first|exact dis|fail) only [push_cast,↓reduceIte,zq1,zq2,zq3,zq4,zq5,fct])|((first|refine brO_n ?_ ?_|refine brQ_n ?_ ?_)<;>intro hb hc<;>first|(with_reducible exact False.elim hc)|(exfalso;omega)|(simp only [hb];clear hb))|((first|refine zbsl ?_|((with_reducible refine gBox ?_);refine zbox ?_));intro gb wb hS)|(refine zap ?_;intro vb wb hS)|(refine G.drt mixed fun K hK wd hxd=>?_;have hS:=Sep.xx hxd)|with_reducible refine OT_leaf ?_|(with_reducible (refine hK2 _ ?_);clear hK2 K2;intro wd hxd;have hS:=Sep.xx hxd)|with_reducible refine OT_br fun K2 hK2=>?_|(refine hK2 _ _ ?_ ?_<;>clear hK2 K2)|refine G.drg mixed fun K hK=>?_|(refine G.cn ?_ ?_<;>intro hc<;>first|(with_reducible exact False.elim hc)|(exfalso;omega)|skip)))<;>(try clear fct)
      all_goals
      refine G.loop (fun r w'=>∃ (k:Nat) (lv:Value) (gt:Nat),k≤us.length∧r 62=I k∧r 61=I us.length∧r 60=lv∧r 7=lv∧r 0=vl∧r 1=vp∧r 5=.pointer (some ⟨gt,0,none⟩)∧(rs.drop k).any (fun r=>!decide ((r.length:Int)=l.length))=rs.any (fun r=>!decide ((r.length:Int)=l.length)) ∧
          Sep w w' [accC lv 79 eV us,boxC gt 86 [I c.kind,vo,vn]]) (fun r _=>us.length - toN (r 62)) ?_ ?_
      · have fct:=@he;exact ⟨0,_,_,Nat.zero_le _,by exact sf,by exact sf,by exact sf,by exact sf,by exact sf,by exact sf,by exact sf,rfl,by rw [hk,he];exact (Sep.sub hS (by repeat first|exact Sub.rfl'|exact Sub.nil0|(refine Sub.c (by repeat constructor) ?_)|refine Sub.skip ?_))⟩
      · clear hS
        rintro u wl ⟨k,lv,gt,hk1,q62,q61,q60,q7,q0,q1,q5,e,hS⟩ ih
        have hm:toN (u 62)=k:=by rw [q62];simp [toN]
        have h0k:=h0.ext hS.x
        by_cases hlt:(k:Int) < us.length
        · have hrk:=(hrs k (by omega)).ext hS.x
          have hst:=any_dropS (fun r:List Val=>!decide ((r.length:Int)=l.length)) rs k (by omega)
          have hd:rs.getD k default=rs.getD k []:=rfl
          rw [hd] at hst
          generalize rs.getD k []=rk at hst hrk
          have hbk:=hrk.bd
          by_cases hw:(rk.length:Int)=l.length
          · rw [decide_eq_true hw] at hst
            simp only [Bool.not_true,Bool.false_or] at hst
            rw [hst] at e
            (have fct:=(And.intro @q62 (And.intro @q61 (And.intro @q60 (And.intro @q7 (And.intro @q0 (And.intro @q1 @q5))))));repeat' (first|((with_reducible apply G.a);exact rfl)|refine G.reg fun K hK=>?_|(with_reducible (refine hK _ _ ?_);clear hK K)|(with_reducible (refine hK _ ?_);clear hK K;intro wd hxd;have hS:=Sep.xx hxd)|((first|have hk:=hK|have hk:=hK2);clear hk;simp (disch:=first|exact dis|fail) only [push_cast,↓reduceIte,zq1,zq2,zq3,zq4,zq5,fct])|((first|refine brO_n ?_ ?_|refine brQ_n ?_ ?_)<;>intro hb hc<;>first|(with_reducible exact False.elim hc)|(exfalso;omega)|(simp only [hb];clear hb))|((first|refine zbsl ?_|((with_reducible refine gBox ?_);refine zbox ?_));intro gb wb hS)|(refine G.drt mixed fun K hK wd hxd=>?_;have hS:=Sep.xx hxd)|with_reducible refine OT_leaf ?_|(with_reducible (refine hK2 _ ?_);clear hK2 K2;intro wd hxd;have hS:=Sep.xx hxd)|with_reducible refine OT_br fun K2 hK2=>?_|(refine hK2 _ _ ?_ ?_<;>clear hK2 K2)|refine G.drg mixed fun K hK=>?_|(refine G.cn ?_ ?_<;>intro hc<;>first|(with_reducible exact False.elim hc)|(exfalso;omega)|skip)))<;>(try clear fct)
            all_goals
              have fct:=(And.intro @q62 (And.intro @q61 (And.intro @q60 (And.intro @q7 (And.intro @q0 (And.intro @q1 @q5))))));refine ih _ _ ⟨k+1,lv,gt,by omega,by exact sf,by exact sf,by exact sf,by exact sf,by exact sf,by exact sf,by exact sf,e,hS⟩ ?_
              rw [hm];simp only [push_cast,↓reduceIte,zq1,zq2,zq3,zq4,zq5,toN_i,q62,q61,q60,q7,q0,q1,q5];omega
          · rw [decide_eq_false hw] at hst
            simp only [Bool.not_false,Bool.true_or] at hst
            rw [hst] at e
            (have fct:=(And.intro @q62 (And.intro @q61 (And.intro @q60 (And.intro @q7 (And.intro @q0 (And.intro @q1 @q5))))));repeat' (first|((with_reducible apply G.a);exact rfl)|refine G.reg fun K hK=>?_|(with_reducible (refine hK _ _ ?_);clear hK K)|(with_reducible (refine hK _ ?_);clear hK K;intro wd hxd;have hS:=Sep.xx hxd)|((first|have hk:=hK|have hk:=hK2);clear hk;simp (disch:=first|exact dis|fail) only [push_cast,↓reduceIte,zq1,zq2,zq3,zq4,zq5,fct])|((first|refine brO_n ?_ ?_|refine brQ_n ?_ ?_)<;>intro hb hc<;>first|(with_reducible exact False.elim hc)|(exfalso;omega)|(simp only [hb];clear hb))|((first|refine zbsl ?_|((with_reducible refine gBox ?_);refine zbox ?_));intro gb wb hS)|(refine G.drt mixed fun K hK wd hxd=>?_;have hS:=Sep.xx hxd)|with_reducible refine OT_leaf ?_|(with_reducible (refine hK2 _ ?_);clear hK2 K2;intro wd hxd;have hS:=Sep.xx hxd)|with_reducible refine OT_br fun K2 hK2=>?_|(refine hK2 _ _ ?_ ?_<;>clear hK2 K2)|refine G.drg mixed fun K hK=>?_|(refine G.cn ?_ ?_<;>intro hc<;>first|(with_reducible exact False.elim hc)|(exfalso;omega)|skip)))<;>(try clear fct)
            all_goals
              (have fct:=(And.intro @q62 (And.intro @q61 (And.intro @q60 (And.intro @q7 (And.intro @q0 (And.intro @q1 @q5))))));(first|refine G.r1 ?_|refine G.r2 ?_|refine G.r3 ?_|refine G.r0 ?_|refine G.d0 ?_);(try simp (disch:=first|exact dis|fail) only [push_cast,↓reduceIte,zq1,zq2,zq3,zq4,zq5,fct]);(try clear fct))
              refine ⟨?_,Sep.xt (by assumption)⟩
              unfold tailO
              rw [if_pos e.symm]
        · rw [List.drop_eq_nil_of_le (by omega),List.any_nil] at e
          have hT1:∀ q,tailO l.length ps rs q=if rs.any (fun r=>nullM r ps)=true then 20 else @ite Int q (Classical.propDecidable q) 21 0:=fun q=>by unfold tailO;rw [←e,if_neg (by simp)]
          rw [hT1]
          have hall:∀ i,i < us.length→((rs.getD i []).length:Int)=l.length:=fun i hi=>by
            have h:=List.any_eq_false.1 e.symm (rs.getD i []) (getD_mem rs i (by omega))
            simpa using h
          clear ih
          (have fct:=(And.intro @q62 (And.intro @q61 (And.intro @q60 (And.intro @q7 (And.intro @q0 (And.intro @q1 @q5))))));repeat' (first|((with_reducible apply G.a);exact rfl)|refine G.reg fun K hK=>?_|(with_reducible (refine hK _ _ ?_);clear hK K)|(with_reducible (refine hK _ ?_);clear hK K;intro wd hxd;have hS:=Sep.xx hxd)|((first|have hk:=hK|have hk:=hK2);clear hk;simp (disch:=first|exact dis|fail) only [push_cast,↓reduceIte,zq1,zq2,zq3,zq4,zq5,fct])|((first|refine brO_n ?_ ?_|refine brQ_n ?_ ?_)<;>intro hb hc<;>first|(with_reducible exact False.elim hc)|(exfalso;omega)|(simp only [hb];clear hb))|((first|refine zbsl ?_|((with_reducible refine gBox ?_);refine zbox ?_));intro gb wb hS)|(refine G.drt mixed fun K hK wd hxd=>?_;have hS:=Sep.xx hxd)|with_reducible refine OT_leaf ?_|(with_reducible (refine hK2 _ ?_);clear hK2 K2;intro wd hxd;have hS:=Sep.xx hxd)|with_reducible refine OT_br fun K2 hK2=>?_|(refine hK2 _ _ ?_ ?_<;>clear hK2 K2)|refine G.drg mixed fun K hK=>?_|(refine G.cn ?_ ?_<;>intro hc<;>first|(with_reducible exact False.elim hc)|(exfalso;omega)|skip)))<;>(try clear fct)
          all_goals
          refine G.loop (fun r w'=>∃ k:Nat,k≤us.length∧r 74=I k∧r 73=I us.length∧r 72=lv∧r 1=vp∧r 5=.pointer (some ⟨gt,0,none⟩)∧(rs.drop k).any (fun r=>nullM r ps)=rs.any (fun r=>nullM r ps) ∧
              Sep w w' [accC lv 79 eV us,boxC gt 86 [I c.kind,vo,vn]]) (fun r _=>us.length - toN (r 74)) ?_ ?_
          · have fct:=(And.intro @q62 (And.intro @q61 (And.intro @q60 (And.intro @q7 (And.intro @q0 (And.intro @q1 @q5))))));exact ⟨0,Nat.zero_le _,by exact sf,by exact sf,by exact sf,by exact sf,by exact sf,rfl,hS⟩
          · clear hS q62 q61 q60 q7 q0 q1 q5 hm h0k
            rintro u2 wl2 ⟨k2,hk2,q74,q73,q72,q1,q5,e2,hS⟩ ih
            have hm:toN (u2 74)=k2:=by rw [q74];simp [toN]
            by_cases hlt2:(k2:Int) < us.length
            · have hrk := hrs k2 (by omega)
              have hst:=any_dropS (fun r:List Val=>nullM r ps) rs k2 (by omega)
              have hd:rs.getD k2 default=rs.getD k2 []:=rfl
              have hwk:=hall k2 (by omega)
              rw [hd] at hst
              generalize rs.getD k2 []=rk at hst hrk hwk
              (have fct:=(And.intro @q74 (And.intro @q73 (And.intro @q72 (And.intro @q1 @q5))));repeat' (first|((with_reducible apply G.a);exact rfl)|refine G.reg fun K hK=>?_|(with_reducible (refine hK _ _ ?_);clear hK K)|(with_reducible (refine hK _ ?_);clear hK K;intro wd hxd;have hS:=Sep.xx hxd)|((first|have hk:=hK|have hk:=hK2);clear hk;simp (disch:=first|exact dis|fail) only [push_cast,↓reduceIte,zq1,zq2,zq3,zq4,zq5,fct])|((first|refine brO_n ?_ ?_|refine brQ_n ?_ ?_)<;>intro hb hc<;>first|(with_reducible exact False.elim hc)|(exfalso;omega)|(simp only [hb];clear hb))|((first|refine zbsl ?_|((with_reducible refine gBox ?_);refine zbox ?_));intro gb wb hS)|(refine G.drt mixed fun K hK wd hxd=>?_;have hS:=Sep.xx hxd)|with_reducible refine OT_leaf ?_|(with_reducible (refine hK2 _ ?_);clear hK2 K2;intro wd hxd;have hS:=Sep.xx hxd)|with_reducible refine OT_br fun K2 hK2=>?_|(refine hK2 _ _ ?_ ?_<;>clear hK2 K2)|refine G.drg mixed fun K hK=>?_|(refine G.cn ?_ ?_<;>intro hc<;>first|(with_reducible exact False.elim hc)|(exfalso;omega)|skip)))<;>(try clear fct)
              all_goals
              refine G.loop (fun r w'=>∃ j:Nat,j≤ps.length∧r 80=I j∧r 79=I ps.length∧r 78=vp∧r 11=us.getD k2 default∧r 74=I k2∧r 73=I us.length∧r 72=lv∧r 1=vp∧r 5=.pointer (some ⟨gt,0,none⟩)∧nullM rk (ps.take j)=false ∧
                  Sep w w' [accC lv 79 eV us,boxC gt 86 [I c.kind,vo,vn]]) (fun r _=>ps.length - toN (r 80)) ?_ ?_
              · have fct:=(And.intro @q74 (And.intro @q73 (And.intro @q72 (And.intro @q1 @q5))));exact ⟨0,Nat.zero_le _,by exact sf,by exact sf,by exact sf,by exact sf,by exact sf,by exact sf,by exact sf,by exact sf,by exact sf,rfl,hS⟩
              · clear hS q74 q73 q72 q1 q5
                rintro u3 wl3 ⟨j,hj,q80,q79,q78,q11,q74,q73,q72,q1,q5,en,hS⟩ ih2
                have hm2:toN (u3 80)=j:=by rw [q80];simp [toN]
                have hrw:=hrk.ext hS.x
                by_cases hlj:(j:Int) < ps.length
                · have hns:=nullM_step rk ps j hlj
                  have hna:=nullM_at rk ps j hlj
                  have hpj:=hpp.2 _ (getD_mem ps j hlj)
                  generalize hpq:ps.getD j default=p at *
                  obtain ⟨hp0,hp1⟩:=hpj
                  by_cases hz:(rk.getD p.toNat default).kind=0
                  · rw [hna hz,Bool.true_or] at hst
                    rw [hst] at e2
                    (have fct:=(And.intro @q80 (And.intro @q79 (And.intro @q78 (And.intro @q11 (And.intro @q74 (And.intro @q73 (And.intro @q72 (And.intro @q1 (And.intro @q5 (And.intro @hpq @hz))))))))));repeat' (first|((with_reducible apply G.a);exact rfl)|refine G.reg fun K hK=>?_|(with_reducible (refine hK _ _ ?_);clear hK K)|(with_reducible (refine hK _ ?_);clear hK K;intro wd hxd;have hS:=Sep.xx hxd)|((first|have hk:=hK|have hk:=hK2);clear hk;simp (disch:=first|exact dis|fail) only [push_cast,↓reduceIte,zq1,zq2,zq3,zq4,zq5,fct])|((first|refine brO_n ?_ ?_|refine brQ_n ?_ ?_)<;>intro hb hc<;>first|(with_reducible exact False.elim hc)|(exfalso;omega)|(simp only [hb];clear hb))|((first|refine zbsl ?_|((with_reducible refine gBox ?_);refine zbox ?_));intro gb wb hS)|(refine G.drt mixed fun K hK wd hxd=>?_;have hS:=Sep.xx hxd)|with_reducible refine OT_leaf ?_|(with_reducible (refine hK2 _ ?_);clear hK2 K2;intro wd hxd;have hS:=Sep.xx hxd)|with_reducible refine OT_br fun K2 hK2=>?_|(refine hK2 _ _ ?_ ?_<;>clear hK2 K2)|refine G.drg mixed fun K hK=>?_|(refine G.cn ?_ ?_<;>intro hc<;>first|(with_reducible exact False.elim hc)|(exfalso;omega)|skip)))<;>(try clear fct)
                    all_goals
                      (have fct:=(And.intro @q80 (And.intro @q79 (And.intro @q78 (And.intro @q11 (And.intro @q74 (And.intro @q73 (And.intro @q72 (And.intro @q1 @q5))))))));(first|refine G.r1 ?_|refine G.r2 ?_|refine G.r3 ?_|refine G.r0 ?_|refine G.d0 ?_);(try simp (disch:=first|exact dis|fail) only [push_cast,↓reduceIte,zq1,zq2,zq3,zq4,zq5,fct]);(try clear fct))
                      refine ⟨?_,Sep.xt (by assumption)⟩
                      rw [if_pos e2.symm]
                  · rw [en,decide_eq_false hz] at hns
                    (have fct:=(And.intro @q80 (And.intro @q79 (And.intro @q78 (And.intro @q11 (And.intro @q74 (And.intro @q73 (And.intro @q72 (And.intro @q1 (And.intro @q5 @hpq)))))))));repeat' (first|((with_reducible apply G.a);exact rfl)|refine G.reg fun K hK=>?_|(with_reducible (refine hK _ _ ?_);clear hK K)|(with_reducible (refine hK _ ?_);clear hK K;intro wd hxd;have hS:=Sep.xx hxd)|((first|have hk:=hK|have hk:=hK2);clear hk;simp (disch:=first|exact dis|fail) only [push_cast,↓reduceIte,zq1,zq2,zq3,zq4,zq5,fct])|((first|refine brO_n ?_ ?_|refine brQ_n ?_ ?_)<;>intro hb hc<;>first|(with_reducible exact False.elim hc)|(exfalso;omega)|(simp only [hb];clear hb))|((first|refine zbsl ?_|((with_reducible refine gBox ?_);refine zbox ?_));intro gb wb hS)|(refine G.drt mixed fun K hK wd hxd=>?_;have hS:=Sep.xx hxd)|with_reducible refine OT_leaf ?_|(with_reducible (refine hK2 _ ?_);clear hK2 K2;intro wd hxd;have hS:=Sep.xx hxd)|with_reducible refine OT_br fun K2 hK2=>?_|(refine hK2 _ _ ?_ ?_<;>clear hK2 K2)|refine G.drg mixed fun K hK=>?_|(refine G.cn ?_ ?_<;>intro hc<;>first|(with_reducible exact False.elim hc)|(exfalso;omega)|skip)))<;>(try clear fct)
                    all_goals
                      have fct:=(And.intro @q80 (And.intro @q79 (And.intro @q78 (And.intro @q11 (And.intro @q74 (And.intro @q73 (And.intro @q72 (And.intro @q1 @q5))))))));refine ih2 _ _ ⟨j+1,by omega,by exact sf,by exact sf,by exact sf,by exact sf,by exact sf,by exact sf,by exact sf,by exact sf,by exact sf,hns,hS⟩ ?_
                      rw [hm2];simp only [push_cast,↓reduceIte,zq1,zq2,zq3,zq4,zq5,toN_i,q80,q79,q78,q11,q74,q73,q72,q1,q5];omega
                · rw [List.take_of_length_le (by omega)] at en
                  rw [en,Bool.false_or] at hst
                  rw [hst] at e2
                  (have fct:=(And.intro @q80 (And.intro @q79 (And.intro @q78 (And.intro @q11 (And.intro @q74 (And.intro @q73 (And.intro @q72 (And.intro @q1 @q5))))))));repeat' (first|((with_reducible apply G.a);exact rfl)|refine G.reg fun K hK=>?_|(with_reducible (refine hK _ _ ?_);clear hK K)|(with_reducible (refine hK _ ?_);clear hK K;intro wd hxd;have hS:=Sep.xx hxd)|((first|have hk:=hK|have hk:=hK2);clear hk;simp (disch:=first|exact dis|fail) only [push_cast,↓reduceIte,zq1,zq2,zq3,zq4,zq5,fct])|((first|refine brO_n ?_ ?_|refine brQ_n ?_ ?_)<;>intro hb hc<;>first|(with_reducible exact False.elim hc)|(exfalso;omega)|(simp only [hb];clear hb))|((first|refine zbsl ?_|((with_reducible refine gBox ?_);refine zbox ?_));intro gb wb hS)|(refine G.drt mixed fun K hK wd hxd=>?_;have hS:=Sep.xx hxd)|with_reducible refine OT_leaf ?_|(with_reducible (refine hK2 _ ?_);clear hK2 K2;intro wd hxd;have hS:=Sep.xx hxd)|with_reducible refine OT_br fun K2 hK2=>?_|(refine hK2 _ _ ?_ ?_<;>clear hK2 K2)|refine G.drg mixed fun K hK=>?_|(refine G.cn ?_ ?_<;>intro hc<;>first|(with_reducible exact False.elim hc)|(exfalso;omega)|skip)))<;>(try clear fct)
                  all_goals
                    have fct:=(And.intro @q80 (And.intro @q79 (And.intro @q78 (And.intro @q11 (And.intro @q74 (And.intro @q73 (And.intro @q72 (And.intro @q1 @q5))))))));refine ih _ _ ⟨k2+1,by omega,by exact sf,by exact sf,by exact sf,by exact sf,by exact sf,e2,hS⟩ ?_
                    rw [hm];simp only [push_cast,↓reduceIte,zq1,zq2,zq3,zq4,zq5,toN_i,q80,q79,q78,q11,q74,q73,q72,q1,q5];omega
            · rw [List.drop_eq_nil_of_le (by omega),List.any_nil] at e2
              rw [←e2,if_neg (by simp)]
              by_cases hk2:c.kind=2
              · have hlo:(c.old.length:Int)=l.length∧(c.new.length:Int)=l.length:=by
                  have e0:=hr2 hk2
                  rw [e0] at hall hus
                  simp only [List.length_cons,List.length_nil] at hus
                  exact ⟨hall 0 (by omega),hall 1 (by omega)⟩
                have mo:=fun (w2:World) (hx:Ext w w2)=>markw_spec (w:=w2) (ho.ext hx) (hp.ext hx) fo ⟨hpp.1,fun p hp=>by have:=hpp.2 p hp;omega⟩ (hT.ext hx)
                have mn:=fun (w2:World) (hx:Ext w w2)=>markw_spec (w:=w2) (hn.ext hx) (hp.ext hx) fn ⟨hpp.1,fun p hp=>by have:=hpp.2 p hp;omega⟩ (hT.ext hx)
                generalize markM tailW c.old ps=ma at mo ⊢
                generalize markM tailW c.new ps=mb at mn ⊢
                by_cases hq:ma=mb
                · rw [if_neg (fun q=>q.2 hq)]
                  (have fct:=(And.intro @q74 (And.intro @q73 (And.intro @q72 (And.intro @q1 (And.intro @q5 (And.intro @hk2 @hq))))));repeat' (first|((with_reducible apply G.a);exact rfl)|refine G.reg fun K hK=>?_|(with_reducible (refine hK _ _ ?_);clear hK K)|(with_reducible (refine hK _ ?_);clear hK K;intro wd hxd;have hS:=Sep.xx hxd)|((first|have hk:=hK|have hk:=hK2);clear hk;simp (disch:=first|exact dis|fail) only [push_cast,↓reduceIte,zq1,zq2,zq3,zq4,zq5,fct])|((first|refine brO_n ?_ ?_|refine brQ_n ?_ ?_)<;>intro hb hc<;>first|(with_reducible exact False.elim hc)|(exfalso;omega)|(simp only [hb];clear hb))|((first|refine zbsl ?_|((with_reducible refine gBox ?_);refine zbox ?_));intro gb wb hS)|((with_reducible (show CallK _ 38 [vo,vp] _ _ _ _));refine zcp 38 (mo _ hS.x) ?_;intro wb hS)|((with_reducible (show CallK _ 38 [vn,vp] _ _ _ _));refine zcp 38 (mn _ hS.x) ?_;intro wb hS)|(refine G.drt mixed fun K hK wd hxd=>?_;have hS:=Sep.xx hxd)|with_reducible refine OT_leaf ?_|(with_reducible (refine hK2 _ ?_);clear hK2 K2;intro wd hxd;have hS:=Sep.xx hxd)|with_reducible refine OT_br fun K2 hK2=>?_|(refine hK2 _ _ ?_ ?_<;>clear hK2 K2)|refine G.drg mixed fun K hK=>?_|(refine G.cn ?_ ?_<;>intro hc<;>first|(with_reducible exact False.elim hc)|(exfalso;omega)|skip)))<;>(try clear fct)
                  all_goals
                    (have fct:=(And.intro @q74 (And.intro @q73 (And.intro @q72 (And.intro @q1 @q5))));(first|refine G.r1 ?_|refine G.r2 ?_|refine G.r3 ?_|refine G.r0 ?_|refine G.d0 ?_);(try simp (disch:=first|exact dis|fail) only [push_cast,↓reduceIte,zq1,zq2,zq3,zq4,zq5,fct]);(try clear fct))
                    (first|exact Sep.xt (by assumption)|exact ⟨rfl,Sep.xt (by assumption)⟩)
                · rw [if_pos ⟨hk2,hq⟩]
                  (have fct:=(And.intro @q74 (And.intro @q73 (And.intro @q72 (And.intro @q1 (And.intro @q5 (And.intro @hk2 @hq))))));repeat' (first|((with_reducible apply G.a);exact rfl)|refine G.reg fun K hK=>?_|(with_reducible (refine hK _ _ ?_);clear hK K)|(with_reducible (refine hK _ ?_);clear hK K;intro wd hxd;have hS:=Sep.xx hxd)|((first|have hk:=hK|have hk:=hK2);clear hk;simp (disch:=first|exact dis|fail) only [push_cast,↓reduceIte,zq1,zq2,zq3,zq4,zq5,fct])|((first|refine brO_n ?_ ?_|refine brQ_n ?_ ?_)<;>intro hb hc<;>first|(with_reducible exact False.elim hc)|(exfalso;omega)|(simp only [hb];clear hb))|((first|refine zbsl ?_|((with_reducible refine gBox ?_);refine zbox ?_));intro gb wb hS)|((with_reducible (show CallK _ 38 [vo,vp] _ _ _ _));refine zcp 38 (mo _ hS.x) ?_;intro wb hS)|((with_reducible (show CallK _ 38 [vn,vp] _ _ _ _));refine zcp 38 (mn _ hS.x) ?_;intro wb hS)|(refine G.drt mixed fun K hK wd hxd=>?_;have hS:=Sep.xx hxd)|with_reducible refine OT_leaf ?_|(with_reducible (refine hK2 _ ?_);clear hK2 K2;intro wd hxd;have hS:=Sep.xx hxd)|with_reducible refine OT_br fun K2 hK2=>?_|(refine hK2 _ _ ?_ ?_<;>clear hK2 K2)|refine G.drg mixed fun K hK=>?_|(refine G.cn ?_ ?_<;>intro hc<;>first|(with_reducible exact False.elim hc)|(exfalso;omega)|skip)))<;>(try clear fct)
                  all_goals first
                    | exact absurd (by assumption) hq
                    | ((have fct:=(And.intro @q74 (And.intro @q73 (And.intro @q72 (And.intro @q1 @q5))));(first|refine G.r1 ?_|refine G.r2 ?_|refine G.r3 ?_|refine G.r0 ?_|refine G.d0 ?_);(try simp (disch:=first|exact dis|fail) only [push_cast,↓reduceIte,zq1,zq2,zq3,zq4,zq5,fct]);(try clear fct));(first|exact Sep.xt (by assumption)|exact ⟨rfl,Sep.xt (by assumption)⟩))
              · rw [if_neg (fun q=>hk2 q.1)]
                (have fct:=(And.intro @q74 (And.intro @q73 (And.intro @q72 (And.intro @q1 @q5))));repeat' (first|((with_reducible apply G.a);exact rfl)|refine G.reg fun K hK=>?_|(with_reducible (refine hK _ _ ?_);clear hK K)|(with_reducible (refine hK _ ?_);clear hK K;intro wd hxd;have hS:=Sep.xx hxd)|((first|have hk:=hK|have hk:=hK2);clear hk;simp (disch:=first|exact dis|fail) only [push_cast,↓reduceIte,zq1,zq2,zq3,zq4,zq5,fct])|((first|refine brO_n ?_ ?_|refine brQ_n ?_ ?_)<;>intro hb hc<;>first|(with_reducible exact False.elim hc)|(exfalso;omega)|(simp only [hb];clear hb))|((first|refine zbsl ?_|((with_reducible refine gBox ?_);refine zbox ?_));intro gb wb hS)|(refine G.drt mixed fun K hK wd hxd=>?_;have hS:=Sep.xx hxd)|with_reducible refine OT_leaf ?_|(with_reducible (refine hK2 _ ?_);clear hK2 K2;intro wd hxd;have hS:=Sep.xx hxd)|with_reducible refine OT_br fun K2 hK2=>?_|(refine hK2 _ _ ?_ ?_<;>clear hK2 K2)|refine G.drg mixed fun K hK=>?_|(refine G.cn ?_ ?_<;>intro hc<;>first|(with_reducible exact False.elim hc)|(exfalso;omega)|skip)))<;>(try clear fct)
                all_goals
                  (have fct:=(And.intro @q74 (And.intro @q73 (And.intro @q72 (And.intro @q1 @q5))));(first|refine G.r1 ?_|refine G.r2 ?_|refine G.r3 ?_|refine G.r0 ?_|refine G.d0 ?_);(try simp (disch:=first|exact dis|fail) only [push_cast,↓reduceIte,zq1,zq2,zq3,zq4,zq5,fct]);(try clear fct))
                  (first|exact Sep.xt (by assumption)|exact ⟨rfl,Sep.xt (by assumption)⟩)
end Go.Proofs.YtjajihaeoolefaaGreatDoor
namespace Go.Proofs.YtjajihaeoolefaaGreatDoor
open Nat renaming reduceAdd→zq1,reduceLeDiff→zq2,reduceEqDiff→zq3,reduceLT→zq4
open Int renaming reduceToNat→zq5
set_option linter.unusedSimpArgs false
set_option linter.unusedVariables false
open Go.RowKit
def frzG (vs:List (Int×Value×Value)) (cs:List Chg):Chk where
  ok w F:=vs.length=cs.length∧∀ i,i < cs.length→(vs.getD i default).1=(cs.getD i default).kind∧RdF F w eVal (vs.getD i default).2.1 (cs.getD i default).old∧RdF F w eVal (vs.getD i default).2.2 (cs.getD i default).new
  loc:=fun hb ⟨h1,h2⟩=>⟨h1,fun i hi=>⟨(h2 i hi).1,(h2 i hi).2.1.loc hb,(h2 i hi).2.2.loc hb⟩⟩
section
variable {w w' w0:World} {L M N R:List Chk} {vs:List (Int×Value×Value)} {cs:List Chg} {a b v:Value} {old new:List Val} {t u:TypeId} {k:Int}
theorem Sep.frzG0 (hS:Sep w0 w L):Sep w0 w (frzG [] [] :: L):=hS.push (Ext.refl w) (F:=fun _=>False) ⟨rfl,fun i hi=>by simp at hi⟩ (fun _ h=>h.elim)
theorem rdF_nil {F:Nat→Prop} {w:World}:RdF F w eVal (.slice none 0 0) []:=⟨⟨none,0,rfl,by simp,by simp,by simp,fun h0=>by simp at h0⟩,fun _ _ _ _ h=>by simp at h⟩
theorem frzG_snoc {F G:Nat→Prop} (h:(frzG vs cs).ok w G) (ha:RdF F w eVal a old) (hb:RdF F w eVal b new):(frzG (vs++[(k,a,b)]) (cs++[⟨k,old,new⟩])).ok w (fun b=>F b∨G b):=by
  obtain ⟨hl,hr⟩:=h
  refine ⟨by simp [hl],fun i hi=>?_⟩
  simp only [List.length_append,List.length_cons,List.length_nil] at hi
  by_cases hlt:i < cs.length
  · rw [getD_snoc_lt _ _ _ _ (by omega),getD_snoc_lt _ _ _ _ hlt]
    exact ⟨(hr i hlt).1,(hr i hlt).2.1.mono fun b h=>.inr h,(hr i hlt).2.2.mono fun b h=>.inr h⟩
  · have:i=cs.length:=by omega
    subst this
    rw [getD_snoc_eq,←hl,getD_snoc_eq]
    exact ⟨rfl,ha.mono fun b h=>.inl h,hb.mono fun b h=>.inl h⟩
theorem Sep.frzGTwo (hS:Sep w0 w L) (h1:Ex (accC a t eVal old) L M) (h2:Ex (accC b u eVal new) M N) (h3:Ex (frzG vs cs) N R):Sep w0 w (frzG (vs++[(k,a,b)]) (cs++[⟨k,old,new⟩]) :: R):=by
  obtain ⟨F,f1,f2,f3⟩:=SepL.take h1 hS.2
  obtain ⟨E,e1,e2,e3⟩:=SepL.take h2 f3
  obtain ⟨G,g1,g2,g3⟩:=SepL.take h3 e3
  refine ⟨hS.1,fun b=>(F b∨E b)∨G b,frzG_snoc g1 ((acc_rdF f1).mono fun b h=>.inl h) ((acc_rdF e1).mono fun b h=>.inr h),fun b hb=>?_,SepL.mono g3 ?_⟩
  · rcases hb with (hb|hb)|hb
    · exact ⟨(f2 b hb).1,(f2 b hb).2.1,id⟩
    · exact ⟨(e2 b hb).1,(e2 b hb).2.1,id⟩
    · exact ⟨(g2 b hb).1,(g2 b hb).2.1,id⟩
  · rintro b (h|(h|h)|h)
    · exact h.elim
    · exact .inl (.inl (.inr h))
    · exact .inl (.inr h)
    · exact .inr h
theorem Sep.frzGOld (hS:Sep w0 w L) (h1:Ex (accC a t eVal old) L N) (h3:Ex (frzG vs cs) N R):Sep w0 w (frzG (vs++[(k,a,.slice none 0 0)]) (cs++[⟨k,old,[]⟩]) :: R):=by
  obtain ⟨F,f1,f2,f3⟩:=SepL.take h1 hS.2
  obtain ⟨G,g1,g2,g3⟩:=SepL.take h3 f3
  refine ⟨hS.1,fun b=>F b∨G b,frzG_snoc g1 (acc_rdF f1) rdF_nil,fun b hb=>?_,SepL.mono g3 ?_⟩
  · rcases hb with hb|hb
    · exact ⟨(f2 b hb).1,(f2 b hb).2.1,id⟩
    · exact ⟨(g2 b hb).1,(g2 b hb).2.1,id⟩
  · rintro b (h|h|h)
    · exact h.elim
    · exact .inl (.inr h)
    · exact .inr h
theorem Sep.frzGNew (hS:Sep w0 w L) (h1:Ex (accC b t eVal new) L N) (h3:Ex (frzG vs cs) N R):Sep w0 w (frzG (vs++[(k,.slice none 0 0,b)]) (cs++[⟨k,[],new⟩]) :: R):=by
  obtain ⟨F,f1,f2,f3⟩:=SepL.take h1 hS.2
  obtain ⟨G,g1,g2,g3⟩:=SepL.take h3 f3
  refine ⟨hS.1,fun b=>F b∨G b,frzG_snoc g1 rdF_nil (acc_rdF f1),fun b hb=>?_,SepL.mono g3 ?_⟩
  · rcases hb with hb|hb
    · exact ⟨(f2 b hb).1,(f2 b hb).2.1,id⟩
    · exact ⟨(g2 b hb).1,(g2 b hb).2.1,id⟩
  · rintro b (h|h|h)
    · exact h.elim
    · exact .inl (.inr h)
    · exact .inr h
theorem Sep.frzGLen (hS:Sep w0 w L) (h:Ex (frzG vs cs) L R):vs.length=cs.length:=by
  obtain ⟨F,h1,_⟩:=hS.get h
  exact h1.1
theorem Sep.rdCs (hS:Sep w0 w L) (h1:Ex (accC v u eCg vs) L M) (h2:Ex (frzG vs cs) L R):RdCs w v cs:=by
  obtain ⟨F,f1,f2⟩:=hS.get h2
  exact ⟨vs,hS.rd h1,f1.1,fun i hi=>⟨(f2' f1 i hi).1,(f2' f1 i hi).2.1.1,(f2' f1 i hi).2.2.1⟩⟩
where f2' {F:Nat→Prop} (f1:(frzG vs cs).ok w F) (i:Nat) (hi:i < vs.length):=f1.2 i (f1.1 ▸ hi)
end
end Go.Proofs.YtjajihaeoolefaaGreatDoor
namespace Go.Proofs.YtjajihaeoolefaaGreatDoor
open Nat renaming reduceAdd→zq1,reduceLeDiff→zq2,reduceEqDiff→zq3,reduceLT→zq4
open Int renaming reduceToNat→zq5
set_option linter.unusedSimpArgs false
set_option linter.unusedVariables false
attribute [local irreducible] SemK UnitK StK AlcK BslK CallK CallV Instr.box Builtin.append_ Instr.makeSlice Instr.makeMap Instr.lookup Instr.mapUpdate Instr.sliceAt convert
open Go.RowKit
theorem nil_of_isNil {α:Type} {E:Enc α} {v:Value} {l:List α} {w:World} (hr:Rd w E v l) (hc:isNil v=true):l=[]:=by
  obtain ⟨p,cap,rfl,h2,h3,h4,h5⟩:=hr
  rcases Nat.eq_zero_or_pos l.length with h|h
  · exact List.eq_nil_of_length_eq_zero h
  · obtain ⟨a,ha,_⟩:=h5 h;subst ha;simp [isNil] at hc
def c22:MC:=(.seq (.reg [qq 2 (.mv (.const (.slice none 0 0)))]) (.seq (.seq (.reg [qm 3 0,qq 4 (.raw (.binOp .eql 79 (.tmp 3) (.const (.slice none 0 0)) 79) 4)]) (.cond (.tmp 4) (.seq (.reg [qq 2 (.mv (.const (.slice none 0 0)))]) .ret) .skip)) (.seq (.reg [qq 5 (.bsl 84 [] 0 []),qm 6 0,qq 7 (.raw (.call ⟨(.builtin .append),#[(.tmp 5),(.tmp 6)],#[79,79]⟩) 79),qm 2 7]) .ret)))
theorem k22:conv Tryz.prog 8 (Tryz.f22.body.getD .skip)=c22:=by kernel_rfl
theorem in22 {a0:Value} {w:World} {R:Value→World→Prop} (h:G Tryz.prog Tryz.f22 8 [.c c22] R (frL 0 [a0]) w):Ret Tryz.prog 22 #[a0] w R:=G.enter (args:=[a0]) Tryz.func22 (c:=Tryz.f22.body.getD .skip) (by kernel_rfl) (by kernel_rfl) (by simp) k22 h
theorem cloneV_spec {v:Value} {l:List Val} {w:World} (hr:Rd w eVal v l) (hl:l.length≤1000000000):Ret Tryz.prog 22 #[v] w fun v' w'=>Sep w w' [accC v' 84 eVal l]:=by
  refine in22 ?_
  have hS:=Sep.start w
  repeat' (first|((with_reducible apply G.a);exact rfl)|refine G.reg fun K hK=>?_|(with_reducible (refine hK _ _ ?_);clear hK K)|(with_reducible (refine hK _ ?_);clear hK K;intro wd hxd;have hS:=Sep.xx hxd)|((first|have hk:=hK|have hk:=hK2);clear hk;simp (disch:=first|exact dis|fail) only [push_cast,↓reduceIte,zq1,zq2,zq3,zq4,zq5,fct])|((first|refine brO_n ?_ ?_|refine brQ_n ?_ ?_)<;>intro hb hc<;>first|(with_reducible exact False.elim hc)|(exfalso;omega)|(simp only [hb];clear hb))|((first|refine zalc ?_|refine zbsl ?_|((with_reducible refine gBox ?_);refine zbox ?_));intro gb wb hS)|((with_reducible refine gSt ?_);refine zs2 ?_;intro wb hS)|(refine zcv ?_)|(refine zn1 ?_)|(refine zn2 ?_)|(refine zn3 ?_)|(refine zn4 ?_)|(refine G.drt mixed fun K hK wd hxd=>?_;have hS:=Sep.xx hxd)|with_reducible refine OT_leaf ?_|(with_reducible refine OT_tail fun K2 hK2=>?_)|(with_reducible (refine hK2 _ ?_);clear hK2 K2;intro wd hxd;have hS:=Sep.xx hxd)|with_reducible refine OT_br fun K2 hK2=>?_|(refine hK2 _ _ ?_ ?_<;>clear hK2 K2)|refine G.drg mixed fun K hK=>?_|(refine G.cn ?_ ?_<;>intro hc<;>first|(with_reducible exact False.elim hc)|(exfalso;omega)|skip))
  · have:l=[]:=nil_of_isNil hr hc
    subst this
    (first|refine G.r1 ?_|refine G.r2 ?_|refine G.r3 ?_|refine G.r0 ?_|refine G.d0 ?_);(try simp (disch:=first|exact dis|fail) only [push_cast,↓reduceIte,zq1,zq2,zq3,zq4,zq5,fct])
    exact hS.nil _ _
  · have hS:=Sep.toAcc (E:=eVal) ([]:List Val) hS Up.h rfl rfl (by simp) (by simp)
    ((refine zan ?_;intro vb wb hS))
    repeat' (first|((with_reducible apply G.a);exact rfl)|refine G.reg fun K hK=>?_|(with_reducible (refine hK _ _ ?_);clear hK K)|(with_reducible (refine hK _ ?_);clear hK K;intro wd hxd;have hS:=Sep.xx hxd)|((first|have hk:=hK|have hk:=hK2);clear hk;simp (disch:=first|exact dis|fail) only [push_cast,↓reduceIte,zq1,zq2,zq3,zq4,zq5,fct])|((first|refine brO_n ?_ ?_|refine brQ_n ?_ ?_)<;>intro hb hc<;>first|(with_reducible exact False.elim hc)|(exfalso;omega)|(simp only [hb];clear hb))|((first|refine zalc ?_|refine zbsl ?_|((with_reducible refine gBox ?_);refine zbox ?_));intro gb wb hS)|((with_reducible refine gSt ?_);refine zs2 ?_;intro wb hS)|(refine zcv ?_)|(refine G.drt mixed fun K hK wd hxd=>?_;have hS:=Sep.xx hxd)|with_reducible refine OT_leaf ?_|(with_reducible refine OT_tail fun K2 hK2=>?_)|(with_reducible (refine hK2 _ ?_);clear hK2 K2;intro wd hxd;have hS:=Sep.xx hxd)|with_reducible refine OT_br fun K2 hK2=>?_|(refine hK2 _ _ ?_ ?_<;>clear hK2 K2)|refine G.drg mixed fun K hK=>?_|(refine G.cn ?_ ?_<;>intro hc<;>first|(with_reducible exact False.elim hc)|(exfalso;omega)|skip))
    repeat' (first|((with_reducible apply G.a);exact rfl)|refine G.reg fun K hK=>?_|(with_reducible (refine hK _ _ ?_);clear hK K)|(with_reducible (refine hK _ ?_);clear hK K;intro wd hxd;have hS:=Sep.xx hxd)|((first|have hk:=hK|have hk:=hK2);clear hk;simp (disch:=first|exact dis|fail) only [push_cast,↓reduceIte,zq1,zq2,zq3,zq4,zq5,fct])|((first|refine brO_n ?_ ?_|refine brQ_n ?_ ?_)<;>intro hb hc<;>first|(with_reducible exact False.elim hc)|(exfalso;omega)|(simp only [hb];clear hb))|((first|refine zalc ?_|refine zbsl ?_|((with_reducible refine gBox ?_);refine zbox ?_));intro gb wb hS)|((with_reducible refine gSt ?_);refine zs2 ?_;intro wb hS)|(refine zcv ?_)|(refine G.drt mixed fun K hK wd hxd=>?_;have hS:=Sep.xx hxd)|with_reducible refine OT_leaf ?_|(with_reducible refine OT_tail fun K2 hK2=>?_)|(with_reducible (refine hK2 _ ?_);clear hK2 K2;intro wd hxd;have hS:=Sep.xx hxd)|with_reducible refine OT_br fun K2 hK2=>?_|(refine hK2 _ _ ?_ ?_<;>clear hK2 K2)|refine G.drg mixed fun K hK=>?_|(refine G.cn ?_ ?_<;>intro hc<;>first|(with_reducible exact False.elim hc)|(exfalso;omega)|skip))
    (first|refine G.r1 ?_|refine G.r2 ?_|refine G.r3 ?_|refine G.r0 ?_|refine G.d0 ?_);(try simp (disch:=first|exact dis|fail) only [push_cast,↓reduceIte,zq1,zq2,zq3,zq4,zq5,fct])
    exact hS
def c37:MC:=(.seq (.reg [qq 2 (.mv (.const (.slice none 0 0)))]) (.seq (.seq (.reg [qm 3 0,qq 4 (.raw (.binOp .eql 25 (.tmp 3) (.const (.slice none 0 0)) 25) 4)]) (.cond (.tmp 4) (.seq (.reg [qq 2 (.mv (.const (.slice none 0 0)))]) .ret) .skip)) (.seq (.reg [qq 5 (.bsl 79 [] 0 []),qm 6 0,qq 7 (.raw (.call ⟨(.builtin .append),#[(.tmp 5),(.tmp 6)],#[25,25]⟩) 25),qm 2 7]) .ret)))
theorem k37:conv Tryz.prog 8 (Tryz.f37.body.getD .skip)=c37:=by kernel_rfl
theorem in37 {a0:Value} {w:World} {R:Value→World→Prop} (h:G Tryz.prog Tryz.f37 8 [.c c37] R (frL 0 [a0]) w):Ret Tryz.prog 37 #[a0] w R:=G.enter (args:=[a0]) Tryz.func37 (c:=Tryz.f37.body.getD .skip) (by kernel_rfl) (by kernel_rfl) (by simp) k37 h
theorem cloneT_spec {v:Value} {l:List Value} {w:World} (hr:Rd w eV v l) (hl:l.length≤1000000000):Ret Tryz.prog 37 #[v] w fun v' w'=>Sep w w' [accC v' 79 eV l]:=by
  refine in37 ?_
  have hS:=Sep.start w
  repeat' (first|((with_reducible apply G.a);exact rfl)|refine G.reg fun K hK=>?_|(with_reducible (refine hK _ _ ?_);clear hK K)|(with_reducible (refine hK _ ?_);clear hK K;intro wd hxd;have hS:=Sep.xx hxd)|((first|have hk:=hK|have hk:=hK2);clear hk;simp (disch:=first|exact dis|fail) only [push_cast,↓reduceIte,zq1,zq2,zq3,zq4,zq5,fct])|((first|refine brO_n ?_ ?_|refine brQ_n ?_ ?_)<;>intro hb hc<;>first|(with_reducible exact False.elim hc)|(exfalso;omega)|(simp only [hb];clear hb))|((first|refine zalc ?_|refine zbsl ?_|((with_reducible refine gBox ?_);refine zbox ?_));intro gb wb hS)|((with_reducible refine gSt ?_);refine zs2 ?_;intro wb hS)|(refine zcv ?_)|(refine zn1 ?_)|(refine zn2 ?_)|(refine zn3 ?_)|(refine zn4 ?_)|(refine G.drt mixed fun K hK wd hxd=>?_;have hS:=Sep.xx hxd)|with_reducible refine OT_leaf ?_|(with_reducible refine OT_tail fun K2 hK2=>?_)|(with_reducible (refine hK2 _ ?_);clear hK2 K2;intro wd hxd;have hS:=Sep.xx hxd)|with_reducible refine OT_br fun K2 hK2=>?_|(refine hK2 _ _ ?_ ?_<;>clear hK2 K2)|refine G.drg mixed fun K hK=>?_|(refine G.cn ?_ ?_<;>intro hc<;>first|(with_reducible exact False.elim hc)|(exfalso;omega)|skip))
  · have:l=[]:=nil_of_isNil hr hc
    subst this
    (first|refine G.r1 ?_|refine G.r2 ?_|refine G.r3 ?_|refine G.r0 ?_|refine G.d0 ?_);(try simp (disch:=first|exact dis|fail) only [push_cast,↓reduceIte,zq1,zq2,zq3,zq4,zq5,fct])
    exact hS.nil _ _
  · have hS:=Sep.toAcc (E:=eV) ([]:List Value) hS Up.h rfl rfl (by simp) (by simp)
    ((refine zan ?_;intro vb wb hS))
    repeat' (first|((with_reducible apply G.a);exact rfl)|refine G.reg fun K hK=>?_|(with_reducible (refine hK _ _ ?_);clear hK K)|(with_reducible (refine hK _ ?_);clear hK K;intro wd hxd;have hS:=Sep.xx hxd)|((first|have hk:=hK|have hk:=hK2);clear hk;simp (disch:=first|exact dis|fail) only [push_cast,↓reduceIte,zq1,zq2,zq3,zq4,zq5,fct])|((first|refine brO_n ?_ ?_|refine brQ_n ?_ ?_)<;>intro hb hc<;>first|(with_reducible exact False.elim hc)|(exfalso;omega)|(simp only [hb];clear hb))|((first|refine zalc ?_|refine zbsl ?_|((with_reducible refine gBox ?_);refine zbox ?_));intro gb wb hS)|((with_reducible refine gSt ?_);refine zs2 ?_;intro wb hS)|(refine zcv ?_)|(refine G.drt mixed fun K hK wd hxd=>?_;have hS:=Sep.xx hxd)|with_reducible refine OT_leaf ?_|(with_reducible refine OT_tail fun K2 hK2=>?_)|(with_reducible (refine hK2 _ ?_);clear hK2 K2;intro wd hxd;have hS:=Sep.xx hxd)|with_reducible refine OT_br fun K2 hK2=>?_|(refine hK2 _ _ ?_ ?_<;>clear hK2 K2)|refine G.drg mixed fun K hK=>?_|(refine G.cn ?_ ?_<;>intro hc<;>first|(with_reducible exact False.elim hc)|(exfalso;omega)|skip))
    repeat' (first|((with_reducible apply G.a);exact rfl)|refine G.reg fun K hK=>?_|(with_reducible (refine hK _ _ ?_);clear hK K)|(with_reducible (refine hK _ ?_);clear hK K;intro wd hxd;have hS:=Sep.xx hxd)|((first|have hk:=hK|have hk:=hK2);clear hk;simp (disch:=first|exact dis|fail) only [push_cast,↓reduceIte,zq1,zq2,zq3,zq4,zq5,fct])|((first|refine brO_n ?_ ?_|refine brQ_n ?_ ?_)<;>intro hb hc<;>first|(with_reducible exact False.elim hc)|(exfalso;omega)|(simp only [hb];clear hb))|((first|refine zalc ?_|refine zbsl ?_|((with_reducible refine gBox ?_);refine zbox ?_));intro gb wb hS)|((with_reducible refine gSt ?_);refine zs2 ?_;intro wb hS)|(refine zcv ?_)|(refine G.drt mixed fun K hK wd hxd=>?_;have hS:=Sep.xx hxd)|with_reducible refine OT_leaf ?_|(with_reducible refine OT_tail fun K2 hK2=>?_)|(with_reducible (refine hK2 _ ?_);clear hK2 K2;intro wd hxd;have hS:=Sep.xx hxd)|with_reducible refine OT_br fun K2 hK2=>?_|(refine hK2 _ _ ?_ ?_<;>clear hK2 K2)|refine G.drg mixed fun K hK=>?_|(refine G.cn ?_ ?_<;>intro hc<;>first|(with_reducible exact False.elim hc)|(exfalso;omega)|skip))
    (first|refine G.r1 ?_|refine G.r2 ?_|refine G.r3 ?_|refine G.r0 ?_|refine G.d0 ?_);(try simp (disch:=first|exact dis|fail) only [push_cast,↓reduceIte,zq1,zq2,zq3,zq4,zq5,fct])
    exact hS
def c40:MC:=(.seq (.reg [qq 2 (.mv (.const (.slice none 0 0)))]) (.seq (.seq (.reg [qm 3 0,qq 4 (.raw (.binOp .eql 24 (.tmp 3) (.const (.slice none 0 0)) 24) 4)]) (.cond (.tmp 4) (.seq (.reg [qq 2 (.mv (.const (.slice none 0 0)))]) .ret) .skip)) (.seq (.reg [qq 5 (.bsl 74 [] 0 []),qm 6 0,qq 7 (.raw (.call ⟨(.builtin .append),#[(.tmp 5),(.tmp 6)],#[24,24]⟩) 24),qm 2 7]) .ret)))
theorem k40:conv Tryz.prog 8 (Tryz.f40.body.getD .skip)=c40:=by kernel_rfl
theorem in40 {a0:Value} {w:World} {R:Value→World→Prop} (h:G Tryz.prog Tryz.f40 8 [.c c40] R (frL 0 [a0]) w):Ret Tryz.prog 40 #[a0] w R:=G.enter (args:=[a0]) Tryz.func40 (c:=Tryz.f40.body.getD .skip) (by kernel_rfl) (by kernel_rfl) (by simp) k40 h
theorem cloneC_spec {v:Value} {l:List Col} {w:World} (hr:Rd w eC v l) (hl:l.length≤1000000000):Ret Tryz.prog 40 #[v] w fun v' w'=>Sep w w' [accC v' 74 eC l]:=by
  refine in40 ?_
  have hS:=Sep.start w
  repeat' (first|((with_reducible apply G.a);exact rfl)|refine G.reg fun K hK=>?_|(with_reducible (refine hK _ _ ?_);clear hK K)|(with_reducible (refine hK _ ?_);clear hK K;intro wd hxd;have hS:=Sep.xx hxd)|((first|have hk:=hK|have hk:=hK2);clear hk;simp (disch:=first|exact dis|fail) only [push_cast,↓reduceIte,zq1,zq2,zq3,zq4,zq5,fct])|((first|refine brO_n ?_ ?_|refine brQ_n ?_ ?_)<;>intro hb hc<;>first|(with_reducible exact False.elim hc)|(exfalso;omega)|(simp only [hb];clear hb))|((first|refine zalc ?_|refine zbsl ?_|((with_reducible refine gBox ?_);refine zbox ?_));intro gb wb hS)|((with_reducible refine gSt ?_);refine zs2 ?_;intro wb hS)|(refine zcv ?_)|(refine zn1 ?_)|(refine zn2 ?_)|(refine zn3 ?_)|(refine zn4 ?_)|(refine G.drt mixed fun K hK wd hxd=>?_;have hS:=Sep.xx hxd)|with_reducible refine OT_leaf ?_|(with_reducible refine OT_tail fun K2 hK2=>?_)|(with_reducible (refine hK2 _ ?_);clear hK2 K2;intro wd hxd;have hS:=Sep.xx hxd)|with_reducible refine OT_br fun K2 hK2=>?_|(refine hK2 _ _ ?_ ?_<;>clear hK2 K2)|refine G.drg mixed fun K hK=>?_|(refine G.cn ?_ ?_<;>intro hc<;>first|(with_reducible exact False.elim hc)|(exfalso;omega)|skip))
  · have:l=[]:=nil_of_isNil hr hc
    subst this
    (first|refine G.r1 ?_|refine G.r2 ?_|refine G.r3 ?_|refine G.r0 ?_|refine G.d0 ?_);(try simp (disch:=first|exact dis|fail) only [push_cast,↓reduceIte,zq1,zq2,zq3,zq4,zq5,fct])
    exact hS.nil _ _
  · have hS:=Sep.toAcc (E:=eC) ([]:List Col) hS Up.h rfl rfl (by simp) (by simp)
    ((refine zan ?_;intro vb wb hS))
    repeat' (first|((with_reducible apply G.a);exact rfl)|refine G.reg fun K hK=>?_|(with_reducible (refine hK _ _ ?_);clear hK K)|(with_reducible (refine hK _ ?_);clear hK K;intro wd hxd;have hS:=Sep.xx hxd)|((first|have hk:=hK|have hk:=hK2);clear hk;simp (disch:=first|exact dis|fail) only [push_cast,↓reduceIte,zq1,zq2,zq3,zq4,zq5,fct])|((first|refine brO_n ?_ ?_|refine brQ_n ?_ ?_)<;>intro hb hc<;>first|(with_reducible exact False.elim hc)|(exfalso;omega)|(simp only [hb];clear hb))|((first|refine zalc ?_|refine zbsl ?_|((with_reducible refine gBox ?_);refine zbox ?_));intro gb wb hS)|((with_reducible refine gSt ?_);refine zs2 ?_;intro wb hS)|(refine zcv ?_)|(refine G.drt mixed fun K hK wd hxd=>?_;have hS:=Sep.xx hxd)|with_reducible refine OT_leaf ?_|(with_reducible refine OT_tail fun K2 hK2=>?_)|(with_reducible (refine hK2 _ ?_);clear hK2 K2;intro wd hxd;have hS:=Sep.xx hxd)|with_reducible refine OT_br fun K2 hK2=>?_|(refine hK2 _ _ ?_ ?_<;>clear hK2 K2)|refine G.drg mixed fun K hK=>?_|(refine G.cn ?_ ?_<;>intro hc<;>first|(with_reducible exact False.elim hc)|(exfalso;omega)|skip))
    repeat' (first|((with_reducible apply G.a);exact rfl)|refine G.reg fun K hK=>?_|(with_reducible (refine hK _ _ ?_);clear hK K)|(with_reducible (refine hK _ ?_);clear hK K;intro wd hxd;have hS:=Sep.xx hxd)|((first|have hk:=hK|have hk:=hK2);clear hk;simp (disch:=first|exact dis|fail) only [push_cast,↓reduceIte,zq1,zq2,zq3,zq4,zq5,fct])|((first|refine brO_n ?_ ?_|refine brQ_n ?_ ?_)<;>intro hb hc<;>first|(with_reducible exact False.elim hc)|(exfalso;omega)|(simp only [hb];clear hb))|((first|refine zalc ?_|refine zbsl ?_|((with_reducible refine gBox ?_);refine zbox ?_));intro gb wb hS)|((with_reducible refine gSt ?_);refine zs2 ?_;intro wb hS)|(refine zcv ?_)|(refine G.drt mixed fun K hK wd hxd=>?_;have hS:=Sep.xx hxd)|with_reducible refine OT_leaf ?_|(with_reducible refine OT_tail fun K2 hK2=>?_)|(with_reducible (refine hK2 _ ?_);clear hK2 K2;intro wd hxd;have hS:=Sep.xx hxd)|with_reducible refine OT_br fun K2 hK2=>?_|(refine hK2 _ _ ?_ ?_<;>clear hK2 K2)|refine G.drg mixed fun K hK=>?_|(refine G.cn ?_ ?_<;>intro hc<;>first|(with_reducible exact False.elim hc)|(exfalso;omega)|skip))
    (first|refine G.r1 ?_|refine G.r2 ?_|refine G.r3 ?_|refine G.r0 ?_|refine G.d0 ?_);(try simp (disch:=first|exact dis|fail) only [push_cast,↓reduceIte,zq1,zq2,zq3,zq4,zq5,fct])
    exact hS
end Go.Proofs.YtjajihaeoolefaaGreatDoor
namespace Go.Proofs.YtjajihaeoolefaaGreatDoor
open Nat renaming reduceAdd→zq1,reduceLeDiff→zq2,reduceEqDiff→zq3,reduceLT→zq4
open Int renaming reduceToNat→zq5
set_option linter.unusedSimpArgs false
set_option linter.unusedVariables false
attribute [local irreducible] SemK UnitK StK AlcK BslK CallK CallV Instr.box Builtin.append_ Instr.makeSlice Instr.makeMap Instr.lookup Instr.mapUpdate Instr.sliceAt convert
open Go.RowKit
theorem checkM_nil:checkM ([]:List (Str×Int))=(0,13):=by unfold checkM;simp
theorem dchk_ne {l:List Col} {rows:List (List Val)} {keys:List Str} (h:(dchkM l rows keys).2=0):l≠[]:=by
  intro e
  subst e
  unfold dchkM at h
  rw [List.map_nil,checkM_nil] at h
  simp at h
theorem plc_fine {l:List Col} {keys:List Str} (hl:l≠[]) (hk:keys.length≤1000):FineP (placesM l keys) l.length:=by
  refine ⟨by unfold placesM;rw [List.length_map];exact hk,fun p hp=>?_⟩
  unfold placesM at hp
  obtain ⟨k,_,rfl⟩:=List.mem_map.1 hp
  by_cases h:0≤atM (l.map (·.name)) k
  · have:=plcM_lt l k h;omega
  · unfold plcM
    rw [if_neg h]
    have:=List.length_pos_iff.2 hl
    omega
def FineC (cs:List Chg):Prop:=∀ i,i < cs.length→FineV (cs.getD i default).old∧FineV (cs.getD i default).new
def c35l1:MC:=(.seq (.reg [qq 30 (.bin .lss (.tmp 29) (.tmp 28))]) (.seq (.cond (.tmp 30) .skip (.exit 0)) (.seq (.blk 1 (.seq (.reg [qm 31 29,qq 32 (.adr 3 (.tmp 27) (.tmp 29)),qq 33 (.ld (.some 3) (.tmp 32)),qq 12 (.alc 86 [(.int .i64 0),(.slice none 0 0),(.slice none 0 0)]),qm 11 31,qn (.st 3 (.tmp 12) (.tmp 33))]) (.seq (.reg [qm 34 0,qm 35 10,qq 36 (.ld (.some 3) (.tmp 12)),qq 37 (.call 65 [(.tmp 34),(.tmp 35),(.tmp 36)]),qm 13 37]) (.seq (.reg [qm 38 13,qq 39 (.bin .neq (.tmp 38) (ki 0))]) (.cond (.tmp 39) (.seq (.reg [qm 40 11,qm 41 13,qm 6 40,qm 7 41]) .ret) .skip))))) (.reg [qq 42 (.bin .add (.tmp 29) (ki 1)),qm 29 42]))))
def c35:MC:=(.seq (.reg [qq 6 (.mv (ki 0)),qq 7 (.mv (ki 0))]) (.seq (.seq (.reg [qm 15 0,qq 16 (.bld [(.slice none 0 0),(.slice none 0 0)] [⟨0,⟨1,(.tmp 15)⟩⟩]),qm 17 1,qq 18 (.call 19 [(.tmp 16),(.tmp 17)]),qm 14 18,qq 19 (.ext 0 (.tmp 14)),qq 20 (.ext 1 (.tmp 14)),qm 8 19,qm 9 20]) (.seq (.reg [qm 21 9,qq 22 (.bin .neq (.tmp 21) (ki 0))]) (.cond (.tmp 22) (.seq (.reg [qm 23 9,qq 6 (.mv (ki 0)),qm 7 23]) .ret) .skip))) (.seq (.reg [qm 24 0,qm 25 1,qq 26 (.call 36 [(.tmp 24),(.tmp 25)]),qm 10 26]) (.seq (.seq (.reg [qm 27 2,qq 28 (.len (.tmp 27)),qq 29 (.mv (ki 0))]) (.blk 0 (.loop c35l1))) (.seq (.reg [qm 43 2,qq 44 (.len (.tmp 43)),qm 6 44,qq 7 (.mv (ki 0))]) .ret)))))
theorem k35:conv Tryz.prog 45 (Tryz.f35.body.getD .skip)=c35:=by kernel_rfl
theorem in35 {a0 a1 a2:Value} {w:World} {R:Value→World→Prop} (h:G Tryz.prog Tryz.f35 45 [.c c35] R (frL 0 [a0,a1,a2]) w):Ret Tryz.prog 35 #[a0,a1,a2] w R:=G.enter (args:=[a0,a1,a2]) Tryz.func35 (c:=Tryz.f35.body.getD .skip) (by kernel_rfl) (by kernel_rfl) (by simp) k35 h
set_option maxHeartbeats 1000000 in
theorem pchk_spec {vl vk vc:Value} {l:List Col} {keys:List Str} {cs:List Chg} {w:World} (h0:Rd w eC vl l) (h1:Rd w eS vk keys) (hc:RdCs w vc cs) (hl:∀ c∈l,c.name.length≤100000000000) (hk1:keys.length≤1000) (hf:FineC cs) (hT:Tab w) :
    Pu Tryz.prog 35 #[vl,vk,vc] w (.tuple #[I (pchkM l keys cs).1,I (pchkM l keys cs).2]):=by
  refine in35 ?_
  have hS:=Sep.start w
  have hbd:=h0.bd
  obtain ⟨vs,g1,l1,i1⟩:=hc
  have hbd2:=g1.bd
  have h00:RdT w eVal (.slice none 0 0) ([]:List (List Val)):=⟨[],⟨none,0,rfl,by simp,by simp,by simp,fun h0=>by simp at h0⟩,rfl,fun i hi=>by simp at hi⟩
  have hdc:=fun (w2:World) (hx:Ext w w2)=>dchk_spec (w:=w2) (h0.ext hx) (h00.ext hx) (h1.ext hx) hl hk1 (fun i hi=>by simp at hi) (hT.ext hx)
  have hpn:=fun h=>plc_fine (keys:=keys) (dchk_ne (l:=l) (rows:=[]) (keys:=keys) h) hk1
  have hpd:pchkM l keys cs=if (dchkM l [] keys).2≠0 then (0,(dchkM l [] keys).2) else onesF l.length (placesM l keys) cs 0:=rfl
  rw [hpd]
  generalize dchkM l [] keys=dd at *
  obtain ⟨d1,d2⟩:=dd
  by_cases hd:d2=0
  rotate_left
  · rw [if_pos hd]
    repeat' (first|((with_reducible apply G.a);exact rfl)|refine G.reg fun K hK=>?_|(with_reducible (refine hK _ _ ?_);clear hK K)|(have hk:=hK;clear hk;simp (disch:=first|exact dis|fail) only [push_cast,↓reduceIte,zq1,zq2,zq3,zq4,zq5,fct])|(refine zalc ?_;intro gb wb hS)|((with_reducible refine gSt ?_);refine zs2 ?_;intro wb hS)|(refine zcp 19 (hdc _ hS.x) ?_;intro wb hS)|(refine G.cn ?_ ?_<;>intro hc<;>first|(with_reducible exact False.elim hc)|(exfalso;omega)|skip))
    all_goals
      (first|refine G.r1 ?_|refine G.r2 ?_|refine G.r3 ?_|refine G.r0 ?_|refine G.d0 ?_);(try simp (disch:=first|exact dis|fail) only [push_cast,↓reduceIte,zq1,zq2,zq3,zq4,zq5,fct])
      (first|exact Sep.xt (by assumption)|exact ⟨rfl,Sep.xt (by assumption)⟩)
  · subst hd
    rw [if_neg (by simp)]
    have hfp:=hpn rfl
    repeat' (first|((with_reducible apply G.a);exact rfl)|refine G.reg fun K hK=>?_|(with_reducible (refine hK _ _ ?_);clear hK K)|(have hk:=hK;clear hk;simp (disch:=first|exact dis|fail) only [push_cast,↓reduceIte,zq1,zq2,zq3,zq4,zq5,fct])|(refine zalc ?_;intro gb wb hS)|((with_reducible refine gSt ?_);refine zs2 ?_;intro wb hS)|(refine zcp 19 (hdc _ hS.x) ?_;intro wb hS)|(refine zco 36 (pfind_spec (h0.ext hS.x) (h1.ext hS.x) hk1) ?_;rintro vb wb hS2;have hS:=hS2.ap;simp only [apps] at hS)|(refine G.cn ?_ ?_<;>intro hc<;>first|(with_reducible exact False.elim hc)|(exfalso;omega)|skip))
    all_goals
    generalize placesM l keys=ps at *
    refine G.loop (fun r w'=>∃ (k:Nat) (lv:Value),k≤vs.length∧r 29=I k∧r 28=I vs.length∧r 27=vc∧r 2=vc∧r 0=vl∧r 10=lv∧onesF l.length ps cs 0=onesF l.length ps (cs.drop k) k∧Sep w w' [accC lv 3 eI ps]) (fun r _=>vs.length - toN (r 29)) ?_ ?_
    · exact ⟨0,_,Nat.zero_le _,by exact sf,by exact sf,by exact sf,by exact sf,by exact sf,by exact sf,rfl,(Sep.sub hS (by repeat first|exact Sub.rfl'|exact Sub.nil0|(refine Sub.c (by repeat constructor) ?_)|refine Sub.skip ?_))⟩
    · clear hS
      rintro u wl ⟨k,lv,hk,q29,q28,q27,q2,q0,q10,e,hS⟩ ih
      have hm:toN (u 29)=k:=by rw [q29];simp [toN]
      have h1k:=g1.ext hS.x
      by_cases hlt:(k:Int) < vs.length
      · rw [dropD _ _ (show (k:Int) < cs.length by omega),onesF] at e
        obtain ⟨i2,i3,i4⟩:=i1 k (by omega)
        obtain ⟨f1,f2⟩:=hf k (by omega)
        generalize cs.getD k default=c at e i2 i3 i4 f1 f2
        generalize hx:vs.getD k default=x at *
        obtain ⟨xk,xo,xn⟩:=x
        simp only [] at i2 i3 i4
        subst i2
        have ho:=fun (w2:World) (hx:Ext w w2) (hp:Rd w2 eI lv ps)=>pone_spec (w:=w2) (h0.ext hx) (i3.ext hx) (i4.ext hx) hp f1 f2 hfp (hT.ext hx)
        generalize oneM l.length ps c=o at e ho
        by_cases h:o=0
        · rw [if_neg (not_not_intro h)] at e
          (have fct:=(And.intro @q29 (And.intro @q28 (And.intro @q27 (And.intro @q2 (And.intro @q0 (And.intro @q10 (And.intro @hx @h)))))));repeat' (first|((with_reducible apply G.a);exact rfl)|refine G.reg fun K hK=>?_|(with_reducible (refine hK _ _ ?_);clear hK K)|(have hk:=hK;clear hk;simp (disch:=first|exact dis|fail) only [push_cast,↓reduceIte,zq1,zq2,zq3,zq4,zq5,fct])|(refine zalc ?_;intro gb wb hS)|((with_reducible refine gSt ?_);refine zs2 ?_;intro wb hS)|(refine zcp 65 (ho _ hS.x (Sep.rd hS (by repeat constructor))) ?_;intro wb hS)|(refine G.cn ?_ ?_<;>intro hc<;>first|(with_reducible exact False.elim hc)|(exfalso;omega)|skip)))<;>(try clear fct)
          all_goals
            have fct:=(And.intro @q29 (And.intro @q28 (And.intro @q27 (And.intro @q2 (And.intro @q0 @q10)))));refine ih _ _ ⟨k+1,lv,by omega,by exact sf,by exact sf,by exact sf,by exact sf,by exact sf,by exact sf,e,(Sep.sub hS (by repeat first|exact Sub.rfl'|exact Sub.nil0|(refine Sub.c (by repeat constructor) ?_)|refine Sub.skip ?_))⟩ ?_
            rw [hm];simp only [push_cast,↓reduceIte,zq1,zq2,zq3,zq4,zq5,toN_i,q29,q28,q27,q2,q0,q10];omega
        · rw [if_pos h] at e
          rw [e]
          (have fct:=(And.intro @q29 (And.intro @q28 (And.intro @q27 (And.intro @q2 (And.intro @q0 (And.intro @q10 @hx))))));repeat' (first|((with_reducible apply G.a);exact rfl)|refine G.reg fun K hK=>?_|(with_reducible (refine hK _ _ ?_);clear hK K)|(have hk:=hK;clear hk;simp (disch:=first|exact dis|fail) only [push_cast,↓reduceIte,zq1,zq2,zq3,zq4,zq5,fct])|(refine zalc ?_;intro gb wb hS)|((with_reducible refine gSt ?_);refine zs2 ?_;intro wb hS)|(refine zcp 65 (ho _ hS.x (Sep.rd hS (by repeat constructor))) ?_;intro wb hS)|(refine G.cn ?_ ?_<;>intro hc<;>first|(with_reducible exact False.elim hc)|(exfalso;omega)|skip)))<;>(try clear fct)
          all_goals
            (have fct:=(And.intro @q29 (And.intro @q28 (And.intro @q27 (And.intro @q2 (And.intro @q0 @q10)))));(first|refine G.r1 ?_|refine G.r2 ?_|refine G.r3 ?_|refine G.r0 ?_|refine G.d0 ?_);(try simp (disch:=first|exact dis|fail) only [push_cast,↓reduceIte,zq1,zq2,zq3,zq4,zq5,fct]);(try clear fct))
            (first|exact Sep.xt (by assumption)|exact ⟨rfl,Sep.xt (by assumption)⟩)
      · rw [List.drop_eq_nil_of_le (by omega),onesF] at e
        rw [e]
        (have fct:=(And.intro @q29 (And.intro @q28 (And.intro @q27 (And.intro @q2 (And.intro @q0 @q10)))));repeat' (first|((with_reducible apply G.a);exact rfl)|refine G.reg fun K hK=>?_|(with_reducible (refine hK _ _ ?_);clear hK K)|(have hk:=hK;clear hk;simp (disch:=first|exact dis|fail) only [push_cast,↓reduceIte,zq1,zq2,zq3,zq4,zq5,fct])|(refine zalc ?_;intro gb wb hS)|((with_reducible refine gSt ?_);refine zs2 ?_;intro wb hS)|(refine G.cn ?_ ?_<;>intro hc<;>first|(with_reducible exact False.elim hc)|(exfalso;omega)|skip)))<;>(try clear fct)
        all_goals
          (have fct:=(And.intro @q29 (And.intro @q28 (And.intro @q27 (And.intro @q2 (And.intro @q0 @q10)))));(first|refine G.r1 ?_|refine G.r2 ?_|refine G.r3 ?_|refine G.r0 ?_|refine G.d0 ?_);(try simp (disch:=first|exact dis|fail) only [push_cast,↓reduceIte,zq1,zq2,zq3,zq4,zq5,fct]);(try clear fct))
          refine ⟨?_,Sep.xt (by assumption)⟩
          rw [show k=vs.length by omega]
end Go.Proofs.YtjajihaeoolefaaGreatDoor
