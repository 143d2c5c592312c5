/- Texts of the proof, joined. -/
import Derived.Test.YtjajihaeoolefaaGreatDoorBH20
import Derived.Test.YtjajihaeoolefaaGreatDoorBC26
namespace Go.Proofs.YtjajihaeoolefaaGreatDoor
open Nat renaming reduceAdd→zq1,reduceLeDiff→zq2,reduceEqDiff→zq3,reduceLT→zq4
open Int renaming reduceToNat→zq5
set_option linter.unusedSimpArgs false
set_option linter.unusedVariables false
attribute [local irreducible] SemK UnitK StK AlcK BslK CallK CallV Instr.box Builtin.append_ Instr.makeSlice Instr.makeMap Instr.lookup Instr.mapUpdate Instr.sliceAt convert
open Go.RowKit
def WrV (p:Str×Bd):Value:=.tuple #[S p.1,.agg #[I p.2.k,I p.2.r,I p.2.c,I p.2.a]]
def RowsOK (rows:List (List Val)):Prop:=rows.length≤900∧∀ v∈rows,v.length≤1000000000∧∀ x∈v,i64M x.n∧x.s.length≤900
def c9l1:MC:=(.seq (.reg [qq 42 (.bin .lss (.tmp 41) (.tmp 40))]) (.seq (.cond (.tmp 42) .skip (.exit 0)) (.seq (.blk 1 (.seq (.reg [qm 43 41,qq 44 (.adr 1 (.tmp 39) (.tmp 41)),qq 45 (.ld none (.tmp 44)),qm 12 43,qm 13 45]) (.seq (.reg [qm 47 13,qm 48 1,qq 49 (.call 27 [(.tmp 47),(.tmp 48)]),qm 46 49,qq 50 (.ext 0 (.tmp 46)),qq 51 (.ext 1 (.tmp 46)),qq 52 (.ext 2 (.tmp 46)),qm 14 50,qm 15 51,qm 16 52]) (.seq (.seq (.reg [qm 53 16,qq 54 (.bin .neq (.tmp 53) (ki 0))]) (.cond (.tmp 54) (.seq (.reg [qm 55 16,qm 56 12,qq 57 (.bin .add (.tmp 56) (ki 1)),qm 58 15,qq 59 (.bld [(.int .i64 0),(.int .i64 0),(.int .i64 0),(.int .i64 0)] [⟨0,⟨1,(.tmp 55)⟩⟩,⟨1,⟨1,(.tmp 57)⟩⟩,⟨2,⟨1,(.tmp 58)⟩⟩]),qq 6 (.mv (.const (S []))),qn (.st 4 (.tmp 7) (.tmp 59))]) .ret) .skip)) (.reg [qm 60 11,qm 61 14,qq 62 (.bsl 28 [(.slice none 0 0)] 1 [⟨0,⟨1,(.tmp 61)⟩⟩]),qq 63 (.raw (.call ⟨(.builtin .append),#[(.tmp 60),(.tmp 62)],#[62,62]⟩) 62),qm 11 63]))))) (.reg [qq 64 (.bin .add (.tmp 41) (ki 1)),qm 41 64]))))
def c9:MC:=(.seq (.reg [qq 3 (.raw (.box 23 (.tmp 0)) 0),qq 6 (.mv (.const (S []))),qq 7 (.alc 44 [(.int .i64 0),(.int .i64 0),(.int .i64 0),(.int .i64 0)])]) (.seq (.seq (.reg [qm 21 1,qq 22 (.call 24 [(.tmp 21)]),qm 20 22,qq 23 (.ext 0 (.tmp 20)),qq 24 (.ext 1 (.tmp 20)),qm 8 23,qm 9 24]) (.seq (.reg [qm 25 9,qq 26 (.bin .neq (.tmp 25) (ki 0))]) (.cond (.tmp 26) (.seq (.reg [qm 27 9,qm 28 8,qq 29 (.bld [(.int .i64 0),(.int .i64 0),(.int .i64 0),(.int .i64 0)] [⟨0,⟨1,(.tmp 27)⟩⟩,⟨2,⟨1,(.tmp 28)⟩⟩]),qq 6 (.mv (.const (S []))),qn (.st 4 (.tmp 7) (.tmp 29))]) .ret) .skip))) (.seq (.seq (.reg [qq 30 (.ld (.some 3) (.tmp 3)),qq 31 (.call 25 [(.tmp 30)]),qm 10 31]) (.seq (.reg [qm 32 10,qq 33 (.bin .neq (.tmp 32) (ki 0))]) (.cond (.tmp 33) (.seq (.reg [qm 34 10,qq 35 (.bld [(.int .i64 0),(.int .i64 0),(.int .i64 0),(.int .i64 0)] [⟨0,⟨1,(.tmp 34)⟩⟩]),qq 6 (.mv (.const (S []))),qn (.st 4 (.tmp 7) (.tmp 35))]) .ret) .skip))) (.seq (.reg [qm 36 1,qq 37 (.call 26 [(.tmp 36)]),qq 38 (.bsl 28 [(.slice none 0 0)] 1 [⟨0,⟨1,(.tmp 37)⟩⟩]),qm 11 38]) (.seq (.seq (.reg [qm 39 2,qq 40 (.len (.tmp 39)),qq 41 (.mv (ki 0))]) (.blk 0 (.loop c9l1))) (.seq (.reg [qq 66 (.ld (.some 3) (.tmp 3)),qm 67 11,qq 68 (.call 28 [(.tmp 66),(.tmp 67)]),qm 65 68,qq 69 (.ext 0 (.tmp 65)),qq 70 (.ext 1 (.tmp 65)),qq 71 (.ext 2 (.tmp 65)),qm 17 69,qm 18 70,qm 19 71]) (.seq (.seq (.reg [qm 72 19,qq 73 (.bin .neq (.tmp 72) (ki 0))]) (.cond (.tmp 73) (.seq (.reg [qm 74 19,qm 75 18,qq 76 (.bld [(.int .i64 0),(.int .i64 0),(.int .i64 0),(.int .i64 0)] [⟨0,⟨1,(.tmp 74)⟩⟩,⟨1,⟨1,(.tmp 75)⟩⟩]),qq 6 (.mv (.const (S []))),qn (.st 4 (.tmp 7) (.tmp 76))]) .ret) .skip)) (.seq (.reg [qm 77 17,qq 78 (.bld [(.int .i64 0),(.int .i64 0),(.int .i64 0),(.int .i64 0)] []),qm 6 77,qn (.st 4 (.tmp 7) (.tmp 78))]) .ret))))))))
theorem k9:conv Tryz.prog 79 (Tryz.f9.body.getD .skip)=c9:=by kernel_rfl
theorem in9 {a0 a1 a2:Value} {w:World} {R:Value→World→Prop} (h:G Tryz.prog Tryz.f9 79 [.c c9] R (frL 0 [a0,a1,a2]) w):Ret Tryz.prog 9 #[a0,a1,a2] w R:=G.enter (args:=[a0,a1,a2]) Tryz.func9 (c:=Tryz.f9.body.getD .skip) (by kernel_rfl) (by kernel_rfl) (by simp) k9 h
set_option maxHeartbeats 2000000 in
theorem write_spec {v1 v2:Value} (d:Dl) (hd:byD d) {l:List Col} {rows:List (List Val)} {w:World} (h1:Rd w eC v1 l) (h2:RdT w eVal v2 rows) (hl:l.length≤1000) (hln:∀ c∈l,c.name.length≤1000) (hro:RowsOK rows) (ht:Tab w) :
    Pu Tryz.prog 9 #[(.agg #[U d.dl,U d.q,I d.e]),v1,v2] w (WrV (writeM d l rows)):=by
  refine in9 ?_
  have hS:=Sep.start w
  obtain ⟨vs,hv2,vl2,hi2⟩:=h2
  have hbd:=hv2.bd
  obtain ⟨hn,hrow⟩:=hro
  have hck:=fun (wz:World) (hz:Ext w wz)=>check_spec (h1.ext hz) (fun c hc=>by have:=hln c hc;omega)
  (try simp only [nk_toR] at hck)
  by_cases hc1:(checkM (l.map nkC)).2=0
  rotate_left
  · have hM:writeM d l rows=([],⟨(checkM (l.map nkC)).2,0,(checkM (l.map nkC)).1,0⟩):=by unfold writeM;rw [if_pos hc1]
    rw [hM]
    generalize checkM (l.map nkC)=C at *
    (have fct:=@hc1;repeat' (first|((with_reducible apply G.a);exact rfl)|refine G.reg fun K hK=>?_|(with_reducible (refine hK _ _ ?_);clear hK K)|(with_reducible (refine hK _ ?_);clear hK K;intro wd hxd;have hS:=Sep.xx hxd)|((first|have hk:=hK|have hk:=hK2);clear hk;simp (disch:=first|exact dis|fail) only [push_cast,↓reduceIte,zq1,zq2,zq3,zq4,zq5,fct])|((first|refine brO_n ?_ ?_|refine brQ_n ?_ ?_)<;>intro hb hc<;>first|(with_reducible exact False.elim hc)|(exfalso;omega)|(simp only [hb];clear hb))|((first|refine zalc ?_|refine zbsl ?_|((with_reducible refine gBox ?_);refine zbox ?_));intro gb wb hS)|((with_reducible refine gSt ?_);refine zs2 ?_;intro wb hS)|(refine zcv ?_)|(refine zcp 24 (hck _ hS.x) ?_;intro wb hS)|(refine zcp 25 (checkD_spec d _) ?_;intro wb hS)|(refine zco 26 (snames_spec (h1.ext hS.x) (by omega)) ?_;rintro vb wb hS2;have hS:=hS2.ap;simp only [apps] at hS)|(refine G.drt mixed fun K hK wd hxd=>?_;have hS:=Sep.xx hxd)|with_reducible refine OT_leaf ?_|(with_reducible refine OT_tail fun K2 hK2=>?_)|(with_reducible (refine hK2 _ ?_);clear hK2 K2;intro wd hxd;have hS:=Sep.xx hxd)|with_reducible refine OT_br fun K2 hK2=>?_|(refine hK2 _ _ ?_ ?_<;>clear hK2 K2)|refine G.drg mixed fun K hK=>?_|(refine G.cn ?_ ?_<;>intro hc<;>first|(with_reducible exact False.elim hc)|(exfalso;omega)|skip)))<;>(try clear fct)
    all_goals
      (first|refine G.r1 ?_|refine G.r2 ?_|refine G.r3 ?_|refine G.r0 ?_|refine G.d0 ?_);(try simp (disch:=first|exact dis|fail) only [push_cast,↓reduceIte,zq1,zq2,zq3,zq4,zq5,fct])
      exact ⟨rfl,Sep.xt (by assumption)⟩
  · cases hr : rightD d
    · have hM:writeM d l rows=([],⟨1,0,0,0⟩):=by unfold writeM;rw [if_neg (not_not_intro hc1),if_pos hr]
      rw [hM]
      (have fct:=(And.intro @hc1 @hr);repeat' (first|((with_reducible apply G.a);exact rfl)|refine G.reg fun K hK=>?_|(with_reducible (refine hK _ _ ?_);clear hK K)|(with_reducible (refine hK _ ?_);clear hK K;intro wd hxd;have hS:=Sep.xx hxd)|((first|have hk:=hK|have hk:=hK2);clear hk;simp (disch:=first|exact dis|fail) only [push_cast,↓reduceIte,zq1,zq2,zq3,zq4,zq5,fct])|((first|refine brO_n ?_ ?_|refine brQ_n ?_ ?_)<;>intro hb hc<;>first|(with_reducible exact False.elim hc)|(exfalso;omega)|(simp only [hb];clear hb))|((first|refine zalc ?_|refine zbsl ?_|((with_reducible refine gBox ?_);refine zbox ?_));intro gb wb hS)|((with_reducible refine gSt ?_);refine zs2 ?_;intro wb hS)|(refine zcv ?_)|(refine zcp 24 (hck _ hS.x) ?_;intro wb hS)|(refine zcp 25 (checkD_spec d _) ?_;intro wb hS)|(refine zco 26 (snames_spec (h1.ext hS.x) (by omega)) ?_;rintro vb wb hS2;have hS:=hS2.ap;simp only [apps] at hS)|(refine G.drt mixed fun K hK wd hxd=>?_;have hS:=Sep.xx hxd)|with_reducible refine OT_leaf ?_|(with_reducible refine OT_tail fun K2 hK2=>?_)|(with_reducible (refine hK2 _ ?_);clear hK2 K2;intro wd hxd;have hS:=Sep.xx hxd)|with_reducible refine OT_br fun K2 hK2=>?_|(refine hK2 _ _ ?_ ?_<;>clear hK2 K2)|refine G.drg mixed fun K hK=>?_|(refine G.cn ?_ ?_<;>intro hc<;>first|(with_reducible exact False.elim hc)|(exfalso;omega)|skip)))<;>(try clear fct)
      all_goals
        (first|refine G.r1 ?_|refine G.r2 ?_|refine G.r3 ?_|refine G.r0 ?_|refine G.d0 ?_);(try simp (disch:=first|exact dis|fail) only [push_cast,↓reduceIte,zq1,zq2,zq3,zq4,zq5,fct])
        exact ⟨rfl,Sep.xt (by assumption)⟩
    · have hM : writeM d l rows=if (wrF l rows [namesC l]).2.k≠0 then ([],(wrF l rows [namesC l]).2) else (txtF d true (wrF l rows [namesC l]).1,⟨0,0,0,0⟩):=by
        unfold writeM;rw [if_neg (not_not_intro hc1),if_neg (by rw [hr];decide)]
      rw [hM]
      have hfin:=wrF_ok l rows [namesC l]
      have htab:=write_tab l hc1 hl hln rows
      generalize hW:wrF l rows [namesC l]=W at *
      (have fct:=(And.intro @hc1 @hr);repeat' (first|((with_reducible apply G.a);exact rfl)|refine G.reg fun K hK=>?_|(with_reducible (refine hK _ _ ?_);clear hK K)|(with_reducible (refine hK _ ?_);clear hK K;intro wd hxd;have hS:=Sep.xx hxd)|((first|have hk:=hK|have hk:=hK2);clear hk;simp (disch:=first|exact dis|fail) only [push_cast,↓reduceIte,zq1,zq2,zq3,zq4,zq5,fct])|((first|refine brO_n ?_ ?_|refine brQ_n ?_ ?_)<;>intro hb hc<;>first|(with_reducible exact False.elim hc)|(exfalso;omega)|(simp only [hb];clear hb))|((first|refine zalc ?_|refine zbsl ?_|((with_reducible refine gBox ?_);refine zbox ?_));intro gb wb hS)|((with_reducible refine gSt ?_);refine zs2 ?_;intro wb hS)|(refine zcv ?_)|(refine zcp 24 (hck _ hS.x) ?_;intro wb hS)|(refine zcp 25 (checkD_spec d _) ?_;intro wb hS)|(refine zco 26 (snames_spec (h1.ext hS.x) (by omega)) ?_;rintro vb wb hS2;have hS:=hS2.ap;simp only [apps] at hS)|(refine G.drt mixed fun K hK wd hxd=>?_;have hS:=Sep.xx hxd)|with_reducible refine OT_leaf ?_|(with_reducible refine OT_tail fun K2 hK2=>?_)|(with_reducible (refine hK2 _ ?_);clear hK2 K2;intro wd hxd;have hS:=Sep.xx hxd)|with_reducible refine OT_br fun K2 hK2=>?_|(refine hK2 _ _ ?_ ?_<;>clear hK2 K2)|refine G.drg mixed fun K hK=>?_|(refine G.cn ?_ ?_<;>intro hc<;>first|(with_reducible exact False.elim hc)|(exfalso;omega)|skip)))<;>(try clear fct)
      all_goals
        have hS:=Sep.toAcc (E:=eV) [_] hS Up.h rfl rfl (by intro u hu;simp [eV] at hu;subst hu;exact Sep.accOne hS (.t .h)) (by simp)
        have hS:=(hS.frz0 eS).frzPush (.t (.t .h)) (.h)
        simp only [List.nil_append] at hS
        refine G.loop (fun u wz=>∃ (k:Nat) (rv:Value) (us:List Value) (recs:List (List Str)) (g3 g7:Nat),k≤rows.length∧recs.length=k+1∧u 41=I k∧u 40=I vs.length∧u 39=v2∧u 1=v1∧u 3=.pointer (some ⟨g3,0,none⟩)∧u 7=.pointer (some ⟨g7,0,none⟩)∧u 11=rv∧wrF l (rows.drop k) recs=W ∧
          Sep w wz [accC rv 28 eV us,frzC eS us recs,boxC g7 44 [I 0,I 0,I 0,I 0],boxC g3 23 [U d.dl,U d.q,I d.e]]) (fun u _=>vs.length - toN (u 41)) ?_ ?_
        · exact ⟨0,_,_,[namesC l],_,_,Nat.zero_le _,rfl,by exact sf,by exact sf,by exact sf,by exact sf,by exact sf,by exact sf,by exact sf,hW,(Sep.sub hS (by repeat first|exact Sub.rfl'|exact Sub.n|exact Sub.nil0|(refine Sub.c (by repeat constructor) ?_)|refine Sub.skip ?_))⟩
        · clear hS
          rintro u wl ⟨k,rv,us,recs,g3,g7,hk,hrl,q41,q40,q39,q1,q3,q7,q11,e,hS⟩ ih
          have hm:toN (u 41)=k:=by rw [q41];simp [toN]
          have hul:=hS.frzLen (.t .h)
          by_cases hlt:(k:Int) < vs.length
          · have hkr:k < rows.length:=by omega
            have hik:=hi2 k hkr
            obtain ⟨c1,c2⟩:=hrow (rows.getD k []) (by rw [List.getD_eq_getElem?_getD,List.getElem?_eq_getElem hkr];exact List.getElem_mem hkr)
            have hd0:rows.drop k=rows.getD k [] :: rows.drop (k+1):=dropD (α:=List Val) rows k (by omega)
            rw [hd0,wrF] at e
            generalize rows.getD k []=r at *
            have c3:∀ x∈r,x.s.length≤1000000∧i64M x.n:=fun x hx=>⟨by have:=(c2 x hx).2;omega,(c2 x hx).1⟩
            by_cases he:(recM r l).2.2=0
            · rw [if_neg (not_not_intro he)] at e
              (have fct:=(And.intro @q41 (And.intro @q40 (And.intro @q39 (And.intro @q1 (And.intro @q3 (And.intro @q7 (And.intro @q11 @he)))))));repeat' (first|((with_reducible apply G.a);exact rfl)|refine G.reg fun K hK=>?_|(with_reducible (refine hK _ _ ?_);clear hK K)|(with_reducible (refine hK _ ?_);clear hK K;intro wd hxd;have hS:=Sep.xx hxd)|((first|have hk:=hK|have hk:=hK2);clear hk;simp (disch:=first|exact dis|fail) only [push_cast,↓reduceIte,zq1,zq2,zq3,zq4,zq5,fct])|((first|refine brO_n ?_ ?_|refine brQ_n ?_ ?_)<;>intro hb hc<;>first|(with_reducible exact False.elim hc)|(exfalso;omega)|(simp only [hb];clear hb))|((first|refine zalc ?_|refine zbsl ?_|((with_reducible refine gBox ?_);refine zbox ?_));intro gb wb hS)|((with_reducible refine gSt ?_);refine zs2 ?_;intro wb hS)|(refine zcv ?_)|(refine zco 27 (rec_spec (hik.ext hS.x) (h1.ext hS.x) c3 c1 (ht.ext hS.x)) ?_;rintro vb wb ⟨lv,rfl,hS2⟩;have hS:=hS2.ap;simp only [apps] at hS)|(refine zap ?_;intro vb wb hS)|(refine G.drt mixed fun K hK wd hxd=>?_;have hS:=Sep.xx hxd)|with_reducible refine OT_leaf ?_|(with_reducible refine OT_tail fun K2 hK2=>?_)|(with_reducible (refine hK2 _ ?_);clear hK2 K2;intro wd hxd;have hS:=Sep.xx hxd)|with_reducible refine OT_br fun K2 hK2=>?_|(refine hK2 _ _ ?_ ?_<;>clear hK2 K2)|refine G.drg mixed fun K hK=>?_|(refine G.cn ?_ ?_<;>intro hc<;>first|(with_reducible exact False.elim hc)|(exfalso;omega)|skip)))<;>(try clear fct)
              all_goals
                have hS:=hS.frzPush (.h) (.t .h)
                (have fct:=(And.intro @q41 (And.intro @q40 (And.intro @q39 (And.intro @q1 (And.intro @q3 (And.intro @q7 @q11))))));repeat' (first|((with_reducible apply G.a);exact rfl)|refine G.reg fun K hK=>?_|(with_reducible (refine hK _ _ ?_);clear hK K)|(with_reducible (refine hK _ ?_);clear hK K;intro wd hxd;have hS:=Sep.xx hxd)|((first|have hk:=hK|have hk:=hK2);clear hk;simp (disch:=first|exact dis|fail) only [push_cast,↓reduceIte,zq1,zq2,zq3,zq4,zq5,fct])|((first|refine brO_n ?_ ?_|refine brQ_n ?_ ?_)<;>intro hb hc<;>first|(with_reducible exact False.elim hc)|(exfalso;omega)|(simp only [hb];clear hb))|((first|refine zalc ?_|refine zbsl ?_|((with_reducible refine gBox ?_);refine zbox ?_));intro gb wb hS)|((with_reducible refine gSt ?_);refine zs2 ?_;intro wb hS)|(refine zcv ?_)|(refine G.drt mixed fun K hK wd hxd=>?_;have hS:=Sep.xx hxd)|with_reducible refine OT_leaf ?_|(with_reducible refine OT_tail fun K2 hK2=>?_)|(with_reducible (refine hK2 _ ?_);clear hK2 K2;intro wd hxd;have hS:=Sep.xx hxd)|with_reducible refine OT_br fun K2 hK2=>?_|(refine hK2 _ _ ?_ ?_<;>clear hK2 K2)|refine G.drg mixed fun K hK=>?_|(refine G.cn ?_ ?_<;>intro hc<;>first|(with_reducible exact False.elim hc)|(exfalso;omega)|skip)))<;>(try clear fct)
                have fct:=(And.intro @q41 (And.intro @q40 (And.intro @q39 (And.intro @q1 (And.intro @q3 (And.intro @q7 @q11))))));refine ih _ _ ⟨k+1,vb,us++[_],recs++[(recM r l).1],g3,g7,by omega,by simp [hrl],by exact sf,by exact sf,by exact sf,by exact sf,by exact sf,by exact sf,by exact sf,e,(Sep.sub hS (by repeat first|exact Sub.rfl'|exact Sub.n|exact Sub.nil0|(refine Sub.c (by repeat constructor) ?_)|refine Sub.skip ?_))⟩ ?_
                rw [hm];simp only [push_cast,↓reduceIte,zq1,zq2,zq3,zq4,zq5,toN_i,q41,q40,q39,q1,q3,q7,q11];omega
            · rw [if_pos he,hrl] at e
              (have fct:=(And.intro @q41 (And.intro @q40 (And.intro @q39 (And.intro @q1 (And.intro @q3 (And.intro @q7 (And.intro @q11 @he)))))));repeat' (first|((with_reducible apply G.a);exact rfl)|refine G.reg fun K hK=>?_|(with_reducible (refine hK _ _ ?_);clear hK K)|(with_reducible (refine hK _ ?_);clear hK K;intro wd hxd;have hS:=Sep.xx hxd)|((first|have hk:=hK|have hk:=hK2);clear hk;simp (disch:=first|exact dis|fail) only [push_cast,↓reduceIte,zq1,zq2,zq3,zq4,zq5,fct])|((first|refine brO_n ?_ ?_|refine brQ_n ?_ ?_)<;>intro hb hc<;>first|(with_reducible exact False.elim hc)|(exfalso;omega)|(simp only [hb];clear hb))|((first|refine zalc ?_|refine zbsl ?_|((with_reducible refine gBox ?_);refine zbox ?_));intro gb wb hS)|((with_reducible refine gSt ?_);refine zs2 ?_;intro wb hS)|(refine zcv ?_)|(refine zco 27 (rec_spec (hik.ext hS.x) (h1.ext hS.x) c3 c1 (ht.ext hS.x)) ?_;rintro vb wb ⟨lv,rfl,hS2⟩;have hS:=hS2.ap;simp only [apps] at hS)|(refine G.drt mixed fun K hK wd hxd=>?_;have hS:=Sep.xx hxd)|with_reducible refine OT_leaf ?_|(with_reducible refine OT_tail fun K2 hK2=>?_)|(with_reducible (refine hK2 _ ?_);clear hK2 K2;intro wd hxd;have hS:=Sep.xx hxd)|with_reducible refine OT_br fun K2 hK2=>?_|(refine hK2 _ _ ?_ ?_<;>clear hK2 K2)|refine G.drg mixed fun K hK=>?_|(refine G.cn ?_ ?_<;>intro hc<;>first|(with_reducible exact False.elim hc)|(exfalso;omega)|skip)))<;>(try clear fct)
              all_goals
                (have fct:=(And.intro @q41 (And.intro @q40 (And.intro @q39 (And.intro @q1 (And.intro @q3 (And.intro @q7 @q11))))));(first|refine G.r1 ?_|refine G.r2 ?_|refine G.r3 ?_|refine G.r0 ?_|refine G.d0 ?_);(try simp (disch:=first|exact dis|fail) only [push_cast,↓reduceIte,zq1,zq2,zq3,zq4,zq5,fct]);(try clear fct))
                rw [←e,if_pos he]
                exact ⟨rfl,Sep.xt (by assumption)⟩
          · have hk2:rows.length≤k:=by omega
            rw [List.drop_eq_nil_of_le hk2,wrF] at e
            have hW0:W.2.k=0:=by rw [←e]
            obtain ⟨g1,g2⟩:=hfin hW0
            have hrt:TabOK 1000 1000 recs:=by
              have e1:recs=W.1:=by rw [←e]
              have e2:=htab fun v hv=>⟨(hrow v hv).2,g2 v hv⟩
              rw [e1,g1]
              exact e2
            rw [←e,if_neg (by simp)]
            (have fct:=(And.intro @q41 (And.intro @q40 (And.intro @q39 (And.intro @q1 (And.intro @q3 (And.intro @q7 @q11))))));repeat' (first|((with_reducible apply G.a);exact rfl)|refine G.reg fun K hK=>?_|(with_reducible (refine hK _ _ ?_);clear hK K)|(with_reducible (refine hK _ ?_);clear hK K;intro wd hxd;have hS:=Sep.xx hxd)|((first|have hk:=hK|have hk:=hK2);clear hk;simp (disch:=first|exact dis|fail) only [push_cast,↓reduceIte,zq1,zq2,zq3,zq4,zq5,fct])|((first|refine brO_n ?_ ?_|refine brQ_n ?_ ?_)<;>intro hb hc<;>first|(with_reducible exact False.elim hc)|(exfalso;omega)|(simp only [hb];clear hb))|((first|refine zalc ?_|refine zbsl ?_|((with_reducible refine gBox ?_);refine zbox ?_));intro gb wb hS)|((with_reducible refine gSt ?_);refine zs2 ?_;intro wb hS)|(refine zcv ?_)|(refine zcp 28 (wtab_spec d hd hr (Sep.rdT (v:=rv) (vs:=us) hS (by repeat constructor) (by repeat constructor)) hrt (by omega)) ?_;intro wb hS)|(refine G.drt mixed fun K hK wd hxd=>?_;have hS:=Sep.xx hxd)|with_reducible refine OT_leaf ?_|(with_reducible refine OT_tail fun K2 hK2=>?_)|(with_reducible (refine hK2 _ ?_);clear hK2 K2;intro wd hxd;have hS:=Sep.xx hxd)|with_reducible refine OT_br fun K2 hK2=>?_|(refine hK2 _ _ ?_ ?_<;>clear hK2 K2)|refine G.drg mixed fun K hK=>?_|(refine G.cn ?_ ?_<;>intro hc<;>first|(with_reducible exact False.elim hc)|(exfalso;omega)|skip)))<;>(try clear fct)
            all_goals
              (have fct:=(And.intro @q41 (And.intro @q40 (And.intro @q39 (And.intro @q1 (And.intro @q3 (And.intro @q7 @q11))))));(first|refine G.r1 ?_|refine G.r2 ?_|refine G.r3 ?_|refine G.r0 ?_|refine G.d0 ?_);(try simp (disch:=first|exact dis|fail) only [push_cast,↓reduceIte,zq1,zq2,zq3,zq4,zq5,fct]);(try clear fct))
              exact ⟨rfl,Sep.xt (by assumption)⟩
end Go.Proofs.YtjajihaeoolefaaGreatDoor
