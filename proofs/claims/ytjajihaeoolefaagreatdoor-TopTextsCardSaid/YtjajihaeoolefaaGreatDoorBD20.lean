/- Texts of the proof, joined. -/
import Derived.Test.YtjajihaeoolefaaGreatDoorBV20
import Derived.Test.YtjajihaeoolefaaGreatDoorBFw
namespace Go.Proofs.YtjajihaeoolefaaGreatDoor
open Nat renaming reduceAdd→zq1,reduceLeDiff→zq2,reduceEqDiff→zq3,reduceLT→zq4
open Int renaming reduceToNat→zq5
set_option linter.unusedSimpArgs false
set_option linter.unusedVariables false
attribute [local irreducible] SemK UnitK StK AlcK BslK CallK CallV Instr.box Builtin.append_ Instr.makeSlice Instr.makeMap Instr.lookup Instr.mapUpdate Instr.sliceAt convert
open Go.RowKit
def c27l1:MC:=(.seq (.reg [qq 22 (.bin .lss (.tmp 21) (.tmp 20))]) (.seq (.cond (.tmp 22) .skip (.exit 0)) (.seq (.blk 1 (.seq (.reg [qm 23 21,qq 24 (.adr 4 (.tmp 19) (.tmp 21)),qq 25 (.ld (.some 4) (.tmp 24)),qq 9 (.alc 84 [(.int .i64 0),(S []),(.int .i64 0),(.bool false)]),qm 8 23,qn (.st 4 (.tmp 9) (.tmp 25))]) (.seq (.drg [qq 27 (.ld (.some 4) (.tmp 9)),qm 28 1,qm 29 8,qq 30 (.adr 3 (.tmp 28) (.tmp 29)),qq 31 (.ld (.some 3) (.tmp 30)),qq 32 (.call 58 [(.tmp 27),(.tmp 31)]),qm 26 32,qq 33 (.ext 0 (.tmp 26)),qq 34 (.ext 1 (.tmp 26)),qm 10 33,qm 11 34] (.some (.br [qm 28 1,qm 29 8,qq 30 (.adr 3 (.tmp 28) (.tmp 29))] (.leaf [qq 27 (.ld (.some 4) (.tmp 9)),qq 31 (.ld (.some 3) (.tmp 30)),qq 32 (.call 58 [(.tmp 27),(.tmp 31)]),qm 26 32,qq 33 (.ext 0 (.tmp 26)),qq 34 (.ext 1 (.tmp 26)),qm 10 33,qm 11 34]) (.leaf [qq 31 (.ld (.some 3) (.tmp 30)),qq 27 (.ld (.some 4) (.tmp 9)),qq 32 (.call 58 [(.tmp 27),(.tmp 31)]),qm 26 32,qq 33 (.ext 0 (.tmp 26)),qq 34 (.ext 1 (.tmp 26)),qm 10 33,qm 11 34])))) (.seq (.seq (.reg [qm 35 11,qq 36 (.bin .neq (.tmp 35) (ki 0))]) (.cond (.tmp 36) (.seq (.reg [qm 37 8,qm 38 11,qq 4 (.mv (.const (.slice none 0 0))),qm 5 37,qm 6 38]) .ret) .skip)) (.reg [qm 39 7,qm 40 10,qq 41 (.bsl 9 [(S [])] 1 [⟨0,⟨1,(.tmp 40)⟩⟩]),qq 42 (.raw (.call ⟨(.builtin .append),#[(.tmp 39),(.tmp 41)],#[28,28]⟩) 28),qm 7 42]))))) (.reg [qq 43 (.bin .add (.tmp 21) (ki 1)),qm 21 43]))))
def c27:MC:=(.seq (.reg [qq 4 (.mv (.const (.slice none 0 0))),qq 5 (.mv (ki 0)),qq 6 (.mv (ki 0))]) (.seq (.seq (.reg [qm 12 0,qq 13 (.len (.tmp 12)),qm 14 1,qq 15 (.len (.tmp 14)),qq 16 (.bin .neq (.tmp 13) (.tmp 15))]) (.cond (.tmp 16) (.seq (.reg [qm 17 0,qq 18 (.len (.tmp 17)),qq 4 (.mv (.const (.slice none 0 0))),qm 5 18,qq 6 (.mv (ki 10))]) .ret) .skip)) (.seq (.reg [qq 7 (.mv (.const (.slice none 0 0)))]) (.seq (.seq (.reg [qm 19 0,qq 20 (.len (.tmp 19)),qq 21 (.mv (ki 0))]) (.blk 0 (.loop c27l1))) (.seq (.reg [qm 44 7,qm 45 7,qq 46 (.len (.tmp 45)),qm 4 44,qm 5 46,qq 6 (.mv (ki 0))]) .ret)))))
theorem k27:conv Tryz.prog 47 (Tryz.f27.body.getD .skip)=c27:=by kernel_rfl
theorem in27 {a0 a1:Value} {w:World} {R:Value→World→Prop} (h:G Tryz.prog Tryz.f27 47 [.c c27] R (frL 0 [a0,a1]) w):Ret Tryz.prog 27 #[a0,a1] w R:=G.enter (args:=[a0,a1]) Tryz.func27 (c:=Tryz.f27.body.getD .skip) (by kernel_rfl) (by kernel_rfl) (by simp) k27 h
set_option maxHeartbeats 1000000 in
theorem rec_spec {v0 v1:Value} {r:List Val} {l:List Col} {w:World} (h0:Rd w eVal v0 r) (h1:Rd w eC v1 l) (hs:∀ v∈r,v.s.length≤1000000∧i64M v.n) (hrl:r.length≤1000000000) (ht:Tab w) :
    Ret Tryz.prog 27 #[v0,v1] w fun res w'=>∃ lv,res=.tuple #[lv,I (recM r l).2.1,I (recM r l).2.2]∧Sep w w' [accC lv 9 eS (recM r l).1]:=by
  refine in27 ?_
  have hS:=Sep.start w
  have hbd:=h0.bd
  have hbd1:=h1.bd
  have hml:(l.map toR).length=l.length:=List.length_map _
  have nilR:∀ {wx:World} {L:List Chk},Sep w wx L→Sep w wx [accC (.slice none 0 0) 9 eS []]:=fun h=>(Sep.sub h Sub.n).nil _ _
  unfold recM
  by_cases hl:(r.length:Int)=l.length
  rotate_left
  · rw [if_neg hl]
    (have fct:=(And.intro @hl @hml);repeat' (first|((with_reducible apply G.a);exact rfl)|refine G.reg fun K hK=>?_|(with_reducible (refine hK _ _ ?_);clear hK K)|(with_reducible (refine hK _ ?_);clear hK K;intro wd hxd;have hS:=Sep.xx hxd)|((first|have hk:=hK|have hk:=hK2);clear hk;simp (disch:=first|exact dis|fail) only [push_cast,↓reduceIte,zq1,zq2,zq3,zq4,zq5,fct])|((first|refine brO_n ?_ ?_|refine brQ_n ?_ ?_)<;>intro hb hc<;>first|(with_reducible exact False.elim hc)|(exfalso;omega)|(simp only [hb];clear hb))|((first|refine zalc ?_|refine zbsl ?_|((with_reducible refine gBox ?_);refine zbox ?_));intro gb wb hS)|((with_reducible refine gSt ?_);refine zs2 ?_;intro wb hS)|(refine zcv ?_)|(refine G.drt mixed fun K hK wd hxd=>?_;have hS:=Sep.xx hxd)|with_reducible refine OT_leaf ?_|(with_reducible refine OT_tail fun K2 hK2=>?_)|(with_reducible (refine hK2 _ ?_);clear hK2 K2;intro wd hxd;have hS:=Sep.xx hxd)|with_reducible refine OT_br fun K2 hK2=>?_|(refine hK2 _ _ ?_ ?_<;>clear hK2 K2)|refine G.drg mixed fun K hK=>?_|(refine G.cn ?_ ?_<;>intro hc<;>first|(with_reducible exact False.elim hc)|(exfalso;omega)|skip)))<;>(try clear fct)
    all_goals
      (first|refine G.r1 ?_|refine G.r2 ?_|refine G.r3 ?_|refine G.r0 ?_|refine G.d0 ?_);(try simp (disch:=first|exact dis|fail) only [push_cast,↓reduceIte,zq1,zq2,zq3,zq4,zq5,fct])
      exact ⟨_,rfl,nilR hS⟩
  · rw [if_pos hl]
    have hS:=hS.nil 9 eS
    (have fct:=(And.intro @hl @hml);repeat' (first|((with_reducible apply G.a);exact rfl)|refine G.reg fun K hK=>?_|(with_reducible (refine hK _ _ ?_);clear hK K)|(with_reducible (refine hK _ ?_);clear hK K;intro wd hxd;have hS:=Sep.xx hxd)|((first|have hk:=hK|have hk:=hK2);clear hk;simp (disch:=first|exact dis|fail) only [push_cast,↓reduceIte,zq1,zq2,zq3,zq4,zq5,fct])|((first|refine brO_n ?_ ?_|refine brQ_n ?_ ?_)<;>intro hb hc<;>first|(with_reducible exact False.elim hc)|(exfalso;omega)|(simp only [hb];clear hb))|((first|refine zalc ?_|refine zbsl ?_|((with_reducible refine gBox ?_);refine zbox ?_));intro gb wb hS)|((with_reducible refine gSt ?_);refine zs2 ?_;intro wb hS)|(refine zcv ?_)|(refine G.drt mixed fun K hK wd hxd=>?_;have hS:=Sep.xx hxd)|with_reducible refine OT_leaf ?_|(with_reducible refine OT_tail fun K2 hK2=>?_)|(with_reducible (refine hK2 _ ?_);clear hK2 K2;intro wd hxd;have hS:=Sep.xx hxd)|with_reducible refine OT_br fun K2 hK2=>?_|(refine hK2 _ _ ?_ ?_<;>clear hK2 K2)|refine G.drg mixed fun K hK=>?_|(refine G.cn ?_ ?_<;>intro hc<;>first|(with_reducible exact False.elim hc)|(exfalso;omega)|skip)))<;>(try clear fct)
    refine G.loop (fun u w'=>∃ (k:Nat) (lv:Value) (out:List Str),k≤r.length∧out.length=k∧u 21=I k∧u 20=I r.length∧u 19=v0∧u 1=v1∧u 7=lv∧recF r l []=recF (r.drop k) (l.drop k) out∧Sep w w' [accC lv 9 eS out]) (fun u _=>r.length - toN (u 21)) ?_ ?_
    · have fct:=@hl;exact ⟨0,.slice none 0 0,[],Nat.zero_le _,rfl,by exact sf,by exact sf,by exact sf,by exact sf,by exact sf,rfl,hS⟩
    · clear hS
      rintro u wl ⟨k,lv,out,hk,ho,q20,q19,q0,q1,q7,e,hS⟩ ih
      have hm:toN (u 21)=k:=by rw [q20];simp [toN]
      by_cases hlt:(k:Int) < r.length
      · have hlb:(k:Int) < l.length:=by omega
        have hlb2:(k:Int) < (l.map toR).length:=by omega
        have hel:=toR_at l k (by omega)
        rw [recF_at r l k out hlt (by omega),ho] at e
        obtain ⟨hsk,hnk⟩:=hs _ (getD_mem r k hlt)
        generalize hc:l.getD k default=c at *
        generalize hq:r.getD k default=q at *
        by_cases he:(encM q c.kind c.null).2=0
        · rw [if_neg (not_not_intro he)] at e
          (have fct:=(And.intro @q20 (And.intro @q19 (And.intro @q0 (And.intro @q1 (And.intro @q7 (And.intro @hel (And.intro @hc (And.intro @hq @he))))))));repeat' (first|((with_reducible apply G.a);exact rfl)|refine G.reg fun K hK=>?_|(with_reducible (refine hK _ _ ?_);clear hK K)|(with_reducible (refine hK _ ?_);clear hK K;intro wd hxd;have hS:=Sep.xx hxd)|((first|have hk:=hK|have hk:=hK2);clear hk;simp (disch:=first|exact dis|fail) only [push_cast,↓reduceIte,zq1,zq2,zq3,zq4,zq5,fct])|((first|refine brO_n ?_ ?_|refine brQ_n ?_ ?_)<;>intro hb hc<;>first|(with_reducible exact False.elim hc)|(exfalso;omega)|(simp only [hb];clear hb))|((first|refine zalc ?_|refine zbsl ?_|((with_reducible refine gBox ?_);refine zbox ?_));intro gb wb hS)|((with_reducible refine gSt ?_);refine zs2 ?_;intro wb hS)|(refine zcv ?_)|(refine zcp 58 (enc_spec q c.name c.kind c.null _ hsk hnk (ht.ext (Sep.xt (by assumption)))) ?_;intro wb hS)|(refine zap ?_;intro vb wb hS)|(refine G.drt mixed fun K hK wd hxd=>?_;have hS:=Sep.xx hxd)|with_reducible refine OT_leaf ?_|(with_reducible refine OT_tail fun K2 hK2=>?_)|(with_reducible (refine hK2 _ ?_);clear hK2 K2;intro wd hxd;have hS:=Sep.xx hxd)|with_reducible refine OT_br fun K2 hK2=>?_|(refine hK2 _ _ ?_ ?_<;>clear hK2 K2)|refine G.drg mixed fun K hK=>?_|(refine G.cn ?_ ?_<;>intro hc<;>first|(with_reducible exact False.elim hc)|(exfalso;omega)|skip)))<;>(try clear fct)
          all_goals
            have fct:=(And.intro @q20 (And.intro @q19 (And.intro @q0 (And.intro @q1 @q7))));refine ih _ _ ⟨k+1,vb,out++[(encM q c.kind c.null).1],by omega,by simp [ho],by exact sf,by exact sf,by exact sf,by exact sf,by exact sf,e,(Sep.sub hS (by repeat first|exact Sub.rfl'|exact Sub.n|exact Sub.nil0|(refine Sub.c (by repeat constructor) ?_)|refine Sub.skip ?_))⟩ ?_
            rw [hm];simp only [push_cast,↓reduceIte,zq1,zq2,zq3,zq4,zq5,toN_i,q20,q19,q0,q1,q7];omega
        · rw [if_pos he] at e
          (have fct:=(And.intro @q20 (And.intro @q19 (And.intro @q0 (And.intro @q1 (And.intro @q7 (And.intro @hel (And.intro @hc (And.intro @hq @he))))))));repeat' (first|((with_reducible apply G.a);exact rfl)|refine G.reg fun K hK=>?_|(with_reducible (refine hK _ _ ?_);clear hK K)|(with_reducible (refine hK _ ?_);clear hK K;intro wd hxd;have hS:=Sep.xx hxd)|((first|have hk:=hK|have hk:=hK2);clear hk;simp (disch:=first|exact dis|fail) only [push_cast,↓reduceIte,zq1,zq2,zq3,zq4,zq5,fct])|((first|refine brO_n ?_ ?_|refine brQ_n ?_ ?_)<;>intro hb hc<;>first|(with_reducible exact False.elim hc)|(exfalso;omega)|(simp only [hb];clear hb))|((first|refine zalc ?_|refine zbsl ?_|((with_reducible refine gBox ?_);refine zbox ?_));intro gb wb hS)|((with_reducible refine gSt ?_);refine zs2 ?_;intro wb hS)|(refine zcv ?_)|(refine zcp 58 (enc_spec q c.name c.kind c.null _ hsk hnk (ht.ext (Sep.xt (by assumption)))) ?_;intro wb hS)|(refine G.drt mixed fun K hK wd hxd=>?_;have hS:=Sep.xx hxd)|with_reducible refine OT_leaf ?_|(with_reducible refine OT_tail fun K2 hK2=>?_)|(with_reducible (refine hK2 _ ?_);clear hK2 K2;intro wd hxd;have hS:=Sep.xx hxd)|with_reducible refine OT_br fun K2 hK2=>?_|(refine hK2 _ _ ?_ ?_<;>clear hK2 K2)|refine G.drg mixed fun K hK=>?_|(refine G.cn ?_ ?_<;>intro hc<;>first|(with_reducible exact False.elim hc)|(exfalso;omega)|skip)))<;>(try clear fct)
          all_goals
            rw [e]
            (have fct:=(And.intro @q20 (And.intro @q19 (And.intro @q0 (And.intro @q1 @q7))));(first|refine G.r1 ?_|refine G.r2 ?_|refine G.r3 ?_|refine G.r0 ?_|refine G.d0 ?_);(try simp (disch:=first|exact dis|fail) only [push_cast,↓reduceIte,zq1,zq2,zq3,zq4,zq5,fct]);(try clear fct))
            exact ⟨_,rfl,nilR hS⟩
      · rw [recF_end r l k out hlt] at e
        obtain rfl:r.length=k:=by omega
        rw [e,ho]
        (have fct:=(And.intro @q20 (And.intro @q19 (And.intro @q0 (And.intro @q1 @q7))));repeat' (first|((with_reducible apply G.a);exact rfl)|refine G.reg fun K hK=>?_|(with_reducible (refine hK _ _ ?_);clear hK K)|(with_reducible (refine hK _ ?_);clear hK K;intro wd hxd;have hS:=Sep.xx hxd)|((first|have hk:=hK|have hk:=hK2);clear hk;simp (disch:=first|exact dis|fail) only [push_cast,↓reduceIte,zq1,zq2,zq3,zq4,zq5,fct])|((first|refine brO_n ?_ ?_|refine brQ_n ?_ ?_)<;>intro hb hc<;>first|(with_reducible exact False.elim hc)|(exfalso;omega)|(simp only [hb];clear hb))|((first|refine zalc ?_|refine zbsl ?_|((with_reducible refine gBox ?_);refine zbox ?_));intro gb wb hS)|((with_reducible refine gSt ?_);refine zs2 ?_;intro wb hS)|(refine zcv ?_)|(refine G.drt mixed fun K hK wd hxd=>?_;have hS:=Sep.xx hxd)|with_reducible refine OT_leaf ?_|(with_reducible refine OT_tail fun K2 hK2=>?_)|(with_reducible (refine hK2 _ ?_);clear hK2 K2;intro wd hxd;have hS:=Sep.xx hxd)|with_reducible refine OT_br fun K2 hK2=>?_|(refine hK2 _ _ ?_ ?_<;>clear hK2 K2)|refine G.drg mixed fun K hK=>?_|(refine G.cn ?_ ?_<;>intro hc<;>first|(with_reducible exact False.elim hc)|(exfalso;omega)|skip)))<;>(try clear fct)
        all_goals
          (have fct:=(And.intro @q20 (And.intro @q19 (And.intro @q0 (And.intro @q1 (And.intro @q7 @ho)))));(first|refine G.r1 ?_|refine G.r2 ?_|refine G.r3 ?_|refine G.r0 ?_|refine G.d0 ?_);(try simp (disch:=first|exact dis|fail) only [push_cast,↓reduceIte,zq1,zq2,zq3,zq4,zq5,fct]);(try clear fct))
          exact ⟨_,rfl,hS⟩
end Go.Proofs.YtjajihaeoolefaaGreatDoor
