/- Texts of the proof, joined. -/
import Derived.Lib.ItoaLen
import Derived.Test.YtllanbmpacgigaaGreatDoorDP16
import Derived.Test.YtllanbmpacgigaaGreatDoorDW17
namespace Go.Proofs.YtllanbmpacgigaaGreatDoor
open Nat renaming reduceAdd→zq1,reduceLeDiff→zq2,reduceEqDiff→zq3,reduceLT→zq4
open Int renaming reduceToNat→zq5
set_option linter.unusedSimpArgs false
set_option linter.unusedVariables false
attribute [local irreducible] SemK UnitK StK AlcK BslK CallK CallV Instr.box Builtin.append_ Instr.makeSlice Instr.makeMap Instr.lookup Instr.mapUpdate Instr.sliceAt convert
open Go.RowKit
theorem dropB16 (l:Str) (k:Nat) (h:(k:Int) < l.length):l.drop k=l.getD k 0 :: l.drop (k+1):=by
  rw [List.drop_eq_getElem_cons (by omega)];simp [List.getD,List.getElem?_eq_getElem (show k < l.length by omega)]
theorem u8ne16 {b:UInt8} {c:UInt8} {n:Int} (hn:(c.toNat:Int)=n) (h:¬ (b.toNat:Int)=n):¬ b=c:=fun e=>h (by rw [e];exact hn)
theorem u8eq16 {b:UInt8} {c:UInt8} {n:Int} (hn:(c.toNat:Int)=n) (h:(b.toNat:Int)=n):b=c:=UInt8.toNat_inj.1 (by omega)
theorem dgB_t {b:UInt8} (h1:48≤(b.toNat:Int)) (h2:(b.toNat:Int)≤57):dgB b=true:=by simp only [dgB,decide_eq_true_eq];omega
theorem dgB_f {b:UInt8} (h:(b.toNat:Int) < 48∨57 < (b.toNat:Int)):dgB b=false:=by simp only [dgB,decide_eq_false_iff_not];omega
theorem bod_at (b:UInt8) (r:Str):bodM (b :: r)=(!(decide (b=48)) && (b :: r).all dgB):=by
  simp only [bodM]
  by_cases h:b=48<;>simp [h]
theorem form_48:formM [48]=true:=by decide
theorem form_ne {s:Str} (h:¬ s=[48]):formM s=bodM (trM s):=by simp [formM,h]
def c195:MC:=(.seq (.reg [qq 4 (.mv (.const (S [])))]) (.seq (.seq (.reg [qm 5 0,qm 6 1,qq 7 (.call 157 [(.tmp 5),(.tmp 6)])]) (.cond (.tmp 7) (.seq (.reg [qm 8 0,qm 9 1,qq 10 (.lenS (.tmp 9)),qq 11 (.slS (.tmp 8) (.some (.tmp 10)) none),qm 4 11]) .ret) .skip)) (.seq (.reg [qm 12 0,qm 4 12]) .ret)))
theorem k195:conv Tryz.prog 13 (Tryz.f195.body.getD .skip)=c195:=by kernel_rfl
theorem in195 {a0 a1:Value} {w:World} {R:Value→World→Prop} (h:G Tryz.prog Tryz.f195 13 [.c c195] R (frL 0 [a0,a1]) w):Ret Tryz.prog 195 #[a0,a1] w R:=G.enter (args:=[a0,a1]) Tryz.func195 (c:=Tryz.f195.body.getD .skip) (by kernel_rfl) (by kernel_rfl) (by simp) k195 h
theorem trim0_spec (s:Str) (w:World) (hl:s.length≤1000000000):Pu Tryz.prog 195 #[S s,S [45]] w (S (trM s)):=by
  refine in195 ?_
  have hS:=Sep.start w
  by_cases hc0:s.take 1=[45]
  · have hlen:1≤s.length:=by
      cases s with
      | nil=>simp at hc0
      | cons _ _=>simp
    have e:trM s=s.drop 1:=by simp [trM,negM,hc0]
    rw [e]
    repeat' (first|((with_reducible apply G.a);exact rfl)|refine G.reg fun K hK=>?_|(with_reducible (refine hK _ _ ?_);clear hK K)|(with_reducible (refine hK _ ?_);clear hK K;intro wd hxd;have hS:=Sep.ext (by assumption) hxd)|((first|have hk:=hK|have hk:=hK2);clear hk;simp (disch:=(first|exact dis|fail)) only [push_cast,↓reduceIte,zq1,zq2,zq3,zq4,zq5,decide_eq_true hc0])|((first|refine brO_mk ?_ ?_|refine brQ_mk ?_ ?_)<;>intro hb<;>(try simp only [Bool.not_eq_true',Bool.not_eq_false'] at hb)<;>have hc:=hb<;>(try simp only [hcs,reduceCtorEq] at hc)<;>(try (exfalso;omega))<;>simp only [hb]<;>clear hb)|(refine zalc ?_;intro gb wb hS)|(refine zbsl ?_;intro gb wb hS)|((with_reducible (show SemK _ (Instr.box _ _) _ _ _ _));refine zbox ?_;intro gb wb hS)|((with_reducible (show StK _ _ (Value.pointer _) _ _ _ _ _));refine zst ?_;intro wb hS;(try simp only [sets] at hS))|(refine zcv ?_)|(refine zcp 157 (hpre0_spec s 45 _ hl) ?_;intro wb hS)|(refine G.drt mixed fun K hK wd hxd=>?_;have hS:=Sep.ext (by assumption) hxd)|with_reducible refine OT_leaf ?_|(with_reducible refine OT_tail fun K2 hK2=>?_)|(with_reducible (refine hK2 _ ?_);clear hK2 K2;intro wd hxd;have hS:=Sep.ext (by assumption) hxd)|with_reducible refine OT_br fun K2 hK2=>?_|(refine hK2 _ _ ?_ ?_<;>clear hK2 K2)|refine G.drg mixed fun K hK=>?_|(refine G.cond (by simp only [push_cast,↓reduceIte,zq1,zq2,zq3,zq4,zq5,decide_eq_true hc0];rfl) ?_ ?_<;>intro hc<;>(try simp only [hcs,reduceCtorEq] at hc)<;>(try (exfalso;omega))))
    (first|refine G.r1 ?_|refine G.r2 ?_|refine G.r3 ?_|refine G.r0 ?_|refine G.d0 ?_);(try simp (disch:=first|exact dis|fail) only [push_cast,↓reduceIte,zq1,zq2,zq3,zq4,zq5,fct])
    (first|exact Sep.xt (by assumption)|exact ⟨rfl,Sep.xt (by assumption)⟩)
  · have e:trM s=s:=by simp [trM,negM,hc0]
    rw [e]
    repeat' (first|((with_reducible apply G.a);exact rfl)|refine G.reg fun K hK=>?_|(with_reducible (refine hK _ _ ?_);clear hK K)|(with_reducible (refine hK _ ?_);clear hK K;intro wd hxd;have hS:=Sep.ext (by assumption) hxd)|((first|have hk:=hK|have hk:=hK2);clear hk;simp (disch:=(first|exact dis|fail)) only [push_cast,↓reduceIte,zq1,zq2,zq3,zq4,zq5,decide_eq_false hc0])|((first|refine brO_mk ?_ ?_|refine brQ_mk ?_ ?_)<;>intro hb<;>(try simp only [Bool.not_eq_true',Bool.not_eq_false'] at hb)<;>have hc:=hb<;>(try simp only [hcs,reduceCtorEq] at hc)<;>(try (exfalso;omega))<;>simp only [hb]<;>clear hb)|(refine zalc ?_;intro gb wb hS)|(refine zbsl ?_;intro gb wb hS)|((with_reducible (show SemK _ (Instr.box _ _) _ _ _ _));refine zbox ?_;intro gb wb hS)|((with_reducible (show StK _ _ (Value.pointer _) _ _ _ _ _));refine zst ?_;intro wb hS;(try simp only [sets] at hS))|(refine zcv ?_)|(refine zcp 157 (hpre0_spec s 45 _ hl) ?_;intro wb hS)|(refine G.drt mixed fun K hK wd hxd=>?_;have hS:=Sep.ext (by assumption) hxd)|with_reducible refine OT_leaf ?_|(with_reducible refine OT_tail fun K2 hK2=>?_)|(with_reducible (refine hK2 _ ?_);clear hK2 K2;intro wd hxd;have hS:=Sep.ext (by assumption) hxd)|with_reducible refine OT_br fun K2 hK2=>?_|(refine hK2 _ _ ?_ ?_<;>clear hK2 K2)|refine G.drg mixed fun K hK=>?_|(refine G.cond (by simp only [push_cast,↓reduceIte,zq1,zq2,zq3,zq4,zq5,decide_eq_false hc0];rfl) ?_ ?_<;>intro hc<;>(try simp only [hcs,reduceCtorEq] at hc)<;>(try (exfalso;omega))))
    (first|refine G.r1 ?_|refine G.r2 ?_|refine G.r3 ?_|refine G.r0 ?_|refine G.d0 ?_);(try simp (disch:=first|exact dis|fail) only [push_cast,↓reduceIte,zq1,zq2,zq3,zq4,zq5,fct])
    (first|exact Sep.xt (by assumption)|exact ⟨rfl,Sep.xt (by assumption)⟩)
def c176:MC:=(.seq (.reg [qq 4 (.mv (.const (S [])))]) (.seq (.reg [qm 5 0,qm 6 1,qq 7 (.call 195 [(.tmp 5),(.tmp 6)]),qm 4 7]) .ret))
theorem k176:conv Tryz.prog 8 (Tryz.f176.body.getD .skip)=c176:=by kernel_rfl
theorem in176 {a0 a1:Value} {w:World} {R:Value→World→Prop} (h:G Tryz.prog Tryz.f176 8 [.c c176] R (frL 0 [a0,a1]) w):Ret Tryz.prog 176 #[a0,a1] w R:=G.enter (args:=[a0,a1]) Tryz.func176 (c:=Tryz.f176.body.getD .skip) (by kernel_rfl) (by kernel_rfl) (by simp) k176 h
theorem trim_spec (s:Str) (w:World) (hl:s.length≤1000000000):Pu Tryz.prog 176 #[S s,S [45]] w (S (trM s)):=by
  refine in176 ?_
  have hS:=Sep.start w
  repeat' (first|((with_reducible apply G.a);exact rfl)|refine G.reg fun K hK=>?_|(with_reducible (refine hK _ _ ?_);clear hK K)|(have hk:=hK;clear hk;simp (disch:=first|exact dis|fail) only [push_cast,↓reduceIte,zq1,zq2,zq3,zq4,zq5,fct])|(refine zcp 195 (trim0_spec s _ hl) ?_;intro wb hS))
  (first|refine G.r1 ?_|refine G.r2 ?_|refine G.r3 ?_|refine G.r0 ?_|refine G.d0 ?_);(try simp (disch:=first|exact dis|fail) only [push_cast,↓reduceIte,zq1,zq2,zq3,zq4,zq5,fct])
  (first|exact Sep.xt (by assumption)|exact ⟨rfl,Sep.xt (by assumption)⟩)
theorem tr_len (s:Str):(trM s).length≤s.length:=by unfold trM;split<;>simp
def c140l1:MC:=(.seq (.seq (.reg [qm 15 3,qm 16 0,qq 17 (.lenS (.tmp 16)),qq 18 (.bin .lss (.tmp 15) (.tmp 17))]) (.cond (.tmp 18) .skip (.exit 0))) (.seq (.blk 1 (.seq (.reg [qm 21 0,qm 22 3,qq 23 (.idxS (.tmp 21) (.tmp 22)),qq 24 (.bin .lss (.tmp 23) (.const (.int .u8 48))),qm 25 24,qmf 25 26 0,qmf 25 27 3,qf 25 28 (.idxS (.tmp 26) (.tmp 27)),qf 25 29 (.bin .gtr (.tmp 28) (.const (.int .u8 57))),qq 30 (.pick (.tmp 25) (kb true) (.tmp 29))]) (.cond (.tmp 30) (.seq (.reg [qq 2 (.mv (kb false))]) .ret) .skip))) (.reg [qm 19 3,qq 20 (.bin .add (.tmp 19) (ki 1)),qm 3 20])))
def c140:MC:=(.seq (.reg [qq 2 (.mv (kb false))]) (.seq (.seq (.reg [qm 4 0,qq 5 (.bin .eql (.tmp 4) (.const (S [48])))]) (.cond (.tmp 5) (.seq (.reg [qq 2 (.mv (kb true))]) .ret) .skip)) (.seq (.reg [qm 6 0,qq 7 (.call 176 [(.tmp 6),(.const (S [45]))]),qm 0 7]) (.seq (.seq (.reg [qm 8 0,qq 9 (.bin .eql (.tmp 8) (.const (S []))),qm 10 9,qmf 10 11 0,qf 10 12 (.idxS (.tmp 11) (ki 0)),qf 10 13 (.bin .eql (.tmp 12) (.const (.int .u8 48))),qq 14 (.pick (.tmp 10) (kb true) (.tmp 13))]) (.cond (.tmp 14) (.seq (.reg [qq 2 (.mv (kb false))]) .ret) .skip)) (.seq (.seq (.reg [qq 3 (.mv (ki 0))]) (.blk 0 (.loop c140l1))) (.seq (.reg [qq 2 (.mv (kb true))]) .ret))))))
theorem k140:conv Tryz.prog 31 (Tryz.f140.body.getD .skip)=c140:=by kernel_rfl
theorem in140 {a0:Value} {w:World} {R:Value→World→Prop} (h:G Tryz.prog Tryz.f140 31 [.c c140] R (frL 0 [a0]) w):Ret Tryz.prog 140 #[a0] w R:=G.enter (args:=[a0]) Tryz.func140 (c:=Tryz.f140.body.getD .skip) (by kernel_rfl) (by kernel_rfl) (by simp) k140 h
theorem form_spec (s:Str) (w:World) (hl:s.length≤1000000):Pu Tryz.prog 140 #[S s] w (.bool (formM s)):=by
  refine in140 ?_
  have hS:=Sep.start w
  by_cases h0:s=[48]
  · subst h0
    have hz:(([48]:Str) == [48])=true:=rfl
    (have fct:=@hz;repeat' (first|((with_reducible apply G.a);exact rfl)|refine G.reg fun K hK=>?_|(with_reducible (refine hK _ _ ?_);clear hK K)|(have hk:=hK;clear hk;simp (disch:=first|exact dis|fail) only [push_cast,↓reduceIte,zq1,zq2,zq3,zq4,zq5,fct])|(refine brO_n ?_ ?_<;>intro hb hc<;>first|(with_reducible exact False.elim hc)|(exfalso;omega)|(simp only [hb];clear hb))|(refine G.cn ?_ ?_<;>intro hc<;>first|(with_reducible exact False.elim hc)|(exfalso;omega)|skip)))<;>(try clear fct)
    (first|refine G.r1 ?_|refine G.r2 ?_|refine G.r3 ?_|refine G.r0 ?_|refine G.d0 ?_);(try simp (disch:=first|exact dis|fail) only [push_cast,↓reduceIte,zq1,zq2,zq3,zq4,zq5,fct])
    rw [form_48]
    (first|exact Sep.xt (by assumption)|exact ⟨rfl,Sep.xt (by assumption)⟩)
  · have hz : (s == [48])=false:=by simpa using h0
    have hf:=form_ne h0
    have htl:=tr_len s
    generalize ht:trM s=t at hf htl
    cases t with
    | nil =>
      have hz2:(([]:Str) == [])=true:=rfl
      (have fct:=(And.intro @hz (And.intro @ht @hz2));repeat' (first|((with_reducible apply G.a);exact rfl)|refine G.reg fun K hK=>?_|(with_reducible (refine hK _ _ ?_);clear hK K)|(have hk:=hK;clear hk;simp (disch:=first|exact dis|fail) only [push_cast,↓reduceIte,zq1,zq2,zq3,zq4,zq5,fct])|(refine brO_n ?_ ?_<;>intro hb hc<;>first|(with_reducible exact False.elim hc)|(exfalso;omega)|(simp only [hb];clear hb))|(refine zcp 176 (trim_spec s _ (by omega)) ?_;intro wb hS)|(refine G.cn ?_ ?_<;>intro hc<;>first|(with_reducible exact False.elim hc)|(exfalso;omega)|skip)))<;>(try clear fct)
      (first|refine G.r1 ?_|refine G.r2 ?_|refine G.r3 ?_|refine G.r0 ?_|refine G.d0 ?_);(try simp (disch:=first|exact dis|fail) only [push_cast,↓reduceIte,zq1,zq2,zq3,zq4,zq5,fct])
      rw [hf]
      exact ⟨rfl,Sep.xt (by assumption)⟩
    | cons b r =>
      have hz2:(b :: r == [])=false:=by simp
      rw [bod_at] at hf
      (have fct:=(And.intro @hz (And.intro @ht @hz2));repeat' (first|((with_reducible apply G.a);exact rfl)|refine G.reg fun K hK=>?_|(with_reducible (refine hK _ _ ?_);clear hK K)|(have hk:=hK;clear hk;simp (disch:=first|exact dis|fail) only [push_cast,↓reduceIte,zq1,zq2,zq3,zq4,zq5,fct])|(refine brO_n ?_ ?_<;>intro hb hc<;>first|(with_reducible exact False.elim hc)|(exfalso;omega)|(simp only [hb];clear hb))|(refine zcp 176 (trim_spec s _ (by omega)) ?_;intro wb hS)|(refine G.cn ?_ ?_<;>intro hc<;>first|(with_reducible exact False.elim hc)|(exfalso;omega)|skip)))<;>(try clear fct)
      · (first|refine G.r1 ?_|refine G.r2 ?_|refine G.r3 ?_|refine G.r0 ?_|refine G.d0 ?_);(try simp (disch:=first|exact dis|fail) only [push_cast,↓reduceIte,zq1,zq2,zq3,zq4,zq5,fct])
        rw [hf,u8eq16 (c:=48) (n:=48) rfl hc]
        exact ⟨rfl,Sep.xt (by assumption)⟩
      · rw [decide_eq_false (u8ne16 (n:=48) rfl hc),Bool.not_false,Bool.true_and] at hf
        generalize b :: r=t at *
        refine G.loop (fun r w'=>∃ k:Nat,k≤t.length∧r 3=I k∧r 0=S t∧t.all dgB=(t.drop k).all dgB∧Sep w w' []) (fun r _=>t.length - toN (r 3)) ?_ ?_
        · refine ⟨0,?_⟩
          ((repeat' apply And.intro)<;>first|exact dj|(simp only [push_cast,↓reduceIte,zq1,zq2,zq3,zq4,zq5]<;>omega)|skip)
          all_goals rfl
        · clear hS
          rintro u wl ⟨k,hk,h3,q0,e,hS⟩ ih
          by_cases hlt:(k:Int) < t.length
          · rw [dropB16 t k hlt,List.all_cons] at e
            (have fct:=(And.intro @h3 @q0);repeat' (first|((with_reducible apply G.a);exact rfl)|refine G.reg fun K hK=>?_|(with_reducible (refine hK _ _ ?_);clear hK K)|(have hk:=hK;clear hk;simp (disch:=first|exact dis|fail) only [push_cast,↓reduceIte,zq1,zq2,zq3,zq4,zq5,fct])|(refine brO_n ?_ ?_<;>intro hb hc<;>first|(with_reducible exact False.elim hc)|(exfalso;omega)|(simp only [hb];clear hb))|(refine G.cn ?_ ?_<;>intro hc<;>first|(with_reducible exact False.elim hc)|(exfalso;omega)|skip)))<;>(try clear fct)
            all_goals first
              | ((have fct:=(And.intro @h3 @q0);(first|refine G.r1 ?_|refine G.r2 ?_|refine G.r3 ?_|refine G.r0 ?_|refine G.d0 ?_);(try simp (disch:=first|exact dis|fail) only [push_cast,↓reduceIte,zq1,zq2,zq3,zq4,zq5,fct]);(try clear fct));rw [hf,e,dgB_f (by omega),Bool.false_and];exact Sep.xt (by assumption))
              | ((have fct:=(And.intro @h3 @q0);(first|refine G.r1 ?_|refine G.r2 ?_|refine G.r3 ?_|refine G.r0 ?_|refine G.d0 ?_);(try simp (disch:=first|exact dis|fail) only [push_cast,↓reduceIte,zq1,zq2,zq3,zq4,zq5,fct]);(try clear fct));rw [hf,e,dgB_f (by omega),Bool.false_and];exact ⟨rfl,Sep.xt (by assumption)⟩)
              | (rw [dgB_t (by omega) (by omega),Bool.true_and] at e;(refine ih _ _ ⟨k+1,?_⟩ ?_;rotate_left;(focus ((simp only [push_cast,↓reduceIte,zq1,zq2,zq3,zq4,zq5,toN_i,h3,q0]<;>omega)));((repeat' apply And.intro)<;>first|exact dj|(simp only [push_cast,↓reduceIte,zq1,zq2,zq3,zq4,zq5,h3,q0]<;>omega)|skip));done)
          · (have fct:=(And.intro @h3 @q0);repeat' (first|((with_reducible apply G.a);exact rfl)|refine G.reg fun K hK=>?_|(with_reducible (refine hK _ _ ?_);clear hK K)|(have hk:=hK;clear hk;simp (disch:=first|exact dis|fail) only [push_cast,↓reduceIte,zq1,zq2,zq3,zq4,zq5,fct])|(refine brO_n ?_ ?_<;>intro hb hc<;>first|(with_reducible exact False.elim hc)|(exfalso;omega)|(simp only [hb];clear hb))|(refine G.cn ?_ ?_<;>intro hc<;>first|(with_reducible exact False.elim hc)|(exfalso;omega)|skip)))<;>(try clear fct)
            (have fct:=(And.intro @h3 @q0);(first|refine G.r1 ?_|refine G.r2 ?_|refine G.r3 ?_|refine G.r0 ?_|refine G.d0 ?_);(try simp (disch:=first|exact dis|fail) only [push_cast,↓reduceIte,zq1,zq2,zq3,zq4,zq5,fct]);(try clear fct))
            rw [hf,e,List.drop_eq_nil_of_le (by omega)]
            exact ⟨rfl,Sep.xt (by assumption)⟩
end Go.Proofs.YtllanbmpacgigaaGreatDoor
namespace Go.Proofs.YtllanbmpacgigaaGreatDoor
open Nat renaming reduceAdd→zq1,reduceLeDiff→zq2,reduceEqDiff→zq3,reduceLT→zq4
open Int renaming reduceToNat→zq5
set_option linter.unusedSimpArgs false
set_option linter.unusedVariables false
attribute [local irreducible] SemK UnitK StK AlcK BslK CallK CallV Instr.box Builtin.append_ Instr.makeSlice Instr.makeMap Instr.lookup Instr.mapUpdate Instr.sliceAt convert
open Go.RowKit
def c100:MC:=(.seq (.reg [qq 2 (.mv (ki 0)),qq 3 (.mv (ki 0))]) (.seq (.seq (.reg [qm 6 0,qq 7 (.call 140 [(.tmp 6)]),qq 8 (.un .not (.tmp 7))]) (.cond (.tmp 8) (.seq (.reg [qq 2 (.mv (ki 0)),qq 3 (.mv (ki 17))]) .ret) .skip)) (.seq (.reg [qm 10 0,qq 11 (.call 141 [(.tmp 10),(ki 10),(ki 64)]),qm 9 11,qq 12 (.ext 0 (.tmp 9)),qq 13 (.ext 1 (.tmp 9)),qm 4 12,qm 5 13]) (.seq (.seq (.reg [qm 14 5,qq 15 (.raw (.binOp .neq 69 (.tmp 14) (.const .nilIface) 69) 4)]) (.cond (.tmp 15) (.seq (.reg [qq 2 (.mv (ki 0)),qq 3 (.mv (ki 18))]) .ret) .skip)) (.seq (.reg [qm 16 4,qm 2 16,qq 3 (.mv (ki 0))]) .ret)))))
theorem k100:conv Tryz.prog 17 (Tryz.f100.body.getD .skip)=c100:=by kernel_rfl
theorem in100 {a0:Value} {w:World} {R:Value→World→Prop} (h:G Tryz.prog Tryz.f100 17 [.c c100] R (frL 0 [a0]) w):Ret Tryz.prog 100 #[a0] w R:=G.enter (args:=[a0]) Tryz.func100 (c:=Tryz.f100.body.getD .skip) (by kernel_rfl) (by kernel_rfl) (by simp) k100 h
theorem parse16_spec (s:Str) (w:World) (hl:s.length≤1000000) (hv:ErrV w):Pu Tryz.prog 100 #[S s] w (.tuple #[I (pnM s).1,I (pnM s).2]):=by
  refine in100 ?_
  have hS:=Sep.start w
  unfold pnM
  by_cases hf:formM s=true
  · rw [if_neg (by rw [hf];simp)]
    by_cases hr:-9223372036854775808≤numM s∧numM s≤9223372036854775807
    · rw [if_pos hr]
      (have fct:=@hf;repeat' (first|((with_reducible apply G.a);exact rfl)|refine G.reg fun K hK=>?_|(with_reducible (refine hK _ _ ?_);clear hK K)|(have hk:=hK;clear hk;simp (disch:=first|exact dis|fail) only [push_cast,↓reduceIte,zq1,zq2,zq3,zq4,zq5,fct])|(refine zcp 140 (form_spec s _ hl) ?_;intro wb hS)|(refine zcp 141 (pi_ok s _ hl hf hr) ?_;intro wb hS)|(refine znn ?_)|(refine G.cn ?_ ?_<;>intro hc<;>first|(with_reducible exact False.elim hc)|(exfalso;omega)|skip)))<;>(try clear fct)
      (first|refine G.r1 ?_|refine G.r2 ?_|refine G.r3 ?_|refine G.r0 ?_|refine G.d0 ?_);(try simp (disch:=first|exact dis|fail) only [push_cast,↓reduceIte,zq1,zq2,zq3,zq4,zq5,fct])
      (first|exact Sep.xt (by assumption)|exact ⟨rfl,Sep.xt (by assumption)⟩)
    · rw [if_neg hr]
      (have fct:=@hf;repeat' (first|((with_reducible apply G.a);exact rfl)|refine G.reg fun K hK=>?_|(with_reducible (refine hK _ _ ?_);clear hK K)|(have hk:=hK;clear hk;simp (disch:=first|exact dis|fail) only [push_cast,↓reduceIte,zq1,zq2,zq3,zq4,zq5,fct])|(refine zcp 140 (form_spec s _ hl) ?_;intro wb hS)|(refine zco 141 (pi_range s _ hl hf hr (hv.ext hS.x)) ?_;rintro vb wb ⟨n,t,p,rfl,hx⟩;have hS:=Sep.ext hS hx)|(refine zns ?_)|(refine G.cn ?_ ?_<;>intro hc<;>first|(with_reducible exact False.elim hc)|(exfalso;omega)|skip)))<;>(try clear fct)
      (first|refine G.r1 ?_|refine G.r2 ?_|refine G.r3 ?_|refine G.r0 ?_|refine G.d0 ?_);(try simp (disch:=first|exact dis|fail) only [push_cast,↓reduceIte,zq1,zq2,zq3,zq4,zq5,fct])
      (first|exact Sep.xt (by assumption)|exact ⟨rfl,Sep.xt (by assumption)⟩)
  · have hff:formM s=false:=by simpa using hf
    rw [if_pos hff]
    (have fct:=@hff;repeat' (first|((with_reducible apply G.a);exact rfl)|refine G.reg fun K hK=>?_|(with_reducible (refine hK _ _ ?_);clear hK K)|(have hk:=hK;clear hk;simp (disch:=first|exact dis|fail) only [push_cast,↓reduceIte,zq1,zq2,zq3,zq4,zq5,fct])|(refine zcp 140 (form_spec s _ hl) ?_;intro wb hS)|(refine G.cn ?_ ?_<;>intro hc<;>first|(with_reducible exact False.elim hc)|(exfalso;omega)|skip)))<;>(try clear fct)
    (first|refine G.r1 ?_|refine G.r2 ?_|refine G.r3 ?_|refine G.r0 ?_|refine G.d0 ?_);(try simp (disch:=first|exact dis|fail) only [push_cast,↓reduceIte,zq1,zq2,zq3,zq4,zq5,fct])
    (first|exact Sep.xt (by assumption)|exact ⟨rfl,Sep.xt (by assumption)⟩)
def c53l1:MC:=(.seq (.seq (.reg [qm 24 3,qm 25 0,qq 26 (.lenS (.tmp 25)),qq 27 (.bin .lss (.tmp 24) (.tmp 26))]) (.cond (.tmp 27) .skip (.exit 0))) (.seq (.blk 1 (.seq (.reg [qm 30 0,qm 31 3,qq 32 (.idxS (.tmp 30) (.tmp 31)),qq 33 (.bin .lss (.tmp 32) (.const (.int .u8 48))),qm 34 33,qmf 34 35 0,qmf 34 36 3,qf 34 37 (.idxS (.tmp 35) (.tmp 36)),qf 34 38 (.bin .gtr (.tmp 37) (.const (.int .u8 57))),qq 39 (.pick (.tmp 34) (kb true) (.tmp 38))]) (.cond (.tmp 39) (.seq (.reg [qq 2 (.mv (kb false))]) .ret) .skip))) (.reg [qm 28 3,qq 29 (.bin .add (.tmp 28) (ki 1)),qm 3 29])))
def c53:MC:=(.seq (.reg [qq 2 (.mv (kb false))]) (.seq (.seq (.reg [qm 4 0,qq 5 (.bin .eql (.tmp 4) (.const (S [48])))]) (.cond (.tmp 5) (.seq (.reg [qq 2 (.mv (kb true))]) .ret) .skip)) (.seq (.seq (.reg [qm 6 0,qq 7 (.lenS (.tmp 6)),qq 8 (.bin .gtr (.tmp 7) (ki 0)),qm 9 8,qmt 9 10 0,qt 9 11 (.idxS (.tmp 10) (ki 0)),qt 9 12 (.bin .eql (.tmp 11) (.const (.int .u8 45))),qq 13 (.pick (.tmp 9) (.tmp 12) (kb false))]) (.cond (.tmp 13) (.reg [qm 14 0,qq 15 (.slS (.tmp 14) (.some (ki 1)) none),qm 0 15]) .skip)) (.seq (.seq (.reg [qm 16 0,qq 17 (.lenS (.tmp 16)),qq 18 (.bin .eql (.tmp 17) (ki 0)),qm 19 18,qmf 19 20 0,qf 19 21 (.idxS (.tmp 20) (ki 0)),qf 19 22 (.bin .eql (.tmp 21) (.const (.int .u8 48))),qq 23 (.pick (.tmp 19) (kb true) (.tmp 22))]) (.cond (.tmp 23) (.seq (.reg [qq 2 (.mv (kb false))]) .ret) .skip)) (.seq (.seq (.reg [qq 3 (.mv (ki 0))]) (.blk 0 (.loop c53l1))) (.seq (.reg [qq 2 (.mv (kb true))]) .ret))))))
theorem itoa_s0 {n:Int} (h:0≤n) (h2:n < 10):Lib.itoa n=[UInt8.ofNat (48+n).toNat]:=by
  unfold Lib.itoa
  rw [if_neg (by omega),Lib.decDigits,dif_pos (by omega)]
  congr 2;omega
theorem itoa_b0 {n:Int} (h:10≤n):Lib.itoa n=Lib.itoa (n / 10)++[UInt8.ofNat (48+n % 10).toNat]:=by
  unfold Lib.itoa
  rw [if_neg (by omega),if_neg (by omega),Lib.decDigits,dif_neg (by omega)]
  have e1:n.toNat / 10=(n / 10).toNat:=by omega
  have e2:48+n.toNat % 10=(48+n % 10).toNat:=by omega
  rw [e1,e2]
theorem itoa_s1 {n:Int} (h:-10 < n) (h2:n < 0):Lib.itoa n=[45]++[UInt8.ofNat (48 - n).toNat]:=by
  unfold Lib.itoa
  rw [if_pos h2,Lib.decDigits,dif_pos (by omega)]
  have e2:48+n.natAbs=(48 - n).toNat:=by omega
  rw [e2];rfl
theorem itoa_b1 {n:Int} (h:n≤-10):Lib.itoa n=Lib.itoa (-((-n) / 10))++[UInt8.ofNat (48 - -((-n) % 10)).toNat]:=by
  unfold Lib.itoa
  rw [if_pos (by omega),if_pos (by omega),Lib.decDigits,dif_neg (by omega)]
  have e1:n.natAbs / 10=(-((-n) / 10)).natAbs:=by omega
  have e2:48+n.natAbs % 10=(48 - -((-n) % 10)).toNat:=by omega
  rw [e1,e2];rfl
theorem tdiv_neg {n:Int} (h:n < 0):n.tdiv 10=-((-n) / 10):=by
  have:n=-(-n):=by omega
  rw [this,Int.neg_tdiv,Int.neg_neg,Int.tdiv_eq_ediv_of_nonneg (by omega)]
theorem tmod_neg {n:Int} (h:n < 0):n.tmod 10=-((-n) % 10):=by
  have:n=-(-n):=by omega
  rw [this,Int.neg_tmod,Int.neg_neg,Int.tmod_eq_emod_of_nonneg (by omega)]
def c26:MC:=(.seq (.reg [qq 2 (.mv (.const (S [])))]) (.seq (.seq (.reg [qm 4 0,qq 5 (.bin .lss (.tmp 4) (ki 0))]) (.cond (.tmp 5) (.seq (.seq (.reg [qm 6 0,qq 7 (.bin .quo (.tmp 6) (ki 10)),qq 8 (.bin .eql (.tmp 7) (ki 0))]) (.cond (.tmp 8) (.seq (.reg [qm 9 0,qq 10 (.bin .rem (.tmp 9) (ki 10)),qq 11 (.bin .sub (ki 48) (.tmp 10)),qq 12 (.cvi .u8 (.tmp 11)),qq 13 (.bsl 5 [(.int .u8 0)] 1 [⟨0,⟨1,(.tmp 12)⟩⟩]),qq 14 (.b2s (.tmp 13)),qq 15 (.bin .add (.const (S [45])) (.tmp 14)),qm 2 15]) .ret) .skip)) (.seq (.drg [qm 16 0,qq 17 (.bin .quo (.tmp 16) (ki 10)),qq 18 (.call 26 [(.tmp 17)]),qm 19 0,qq 20 (.bin .rem (.tmp 19) (ki 10)),qq 21 (.bin .sub (ki 48) (.tmp 20)),qq 22 (.cvi .u8 (.tmp 21)),qq 23 (.bsl 5 [(.int .u8 0)] 1 [⟨0,⟨1,(.tmp 22)⟩⟩]),qq 24 (.b2s (.tmp 23)),qq 25 (.bin .add (.tmp 18) (.tmp 24)),qm 2 25] (.some (.br [qm 16 0,qq 17 (.bin .quo (.tmp 16) (ki 10)),qm 19 0,qq 20 (.bin .rem (.tmp 19) (ki 10)),qq 21 (.bin .sub (ki 48) (.tmp 20)),qq 22 (.cvi .u8 (.tmp 21))] (.leaf [qq 18 (.call 26 [(.tmp 17)]),qq 23 (.bsl 5 [(.int .u8 0)] 1 [⟨0,⟨1,(.tmp 22)⟩⟩]),qq 24 (.b2s (.tmp 23)),qq 25 (.bin .add (.tmp 18) (.tmp 24)),qm 2 25]) (.br [qq 23 (.bsl 5 [(.int .u8 0)] 1 [⟨0,⟨1,(.tmp 22)⟩⟩])] (.leaf [qq 18 (.call 26 [(.tmp 17)]),qq 24 (.b2s (.tmp 23)),qq 25 (.bin .add (.tmp 18) (.tmp 24)),qm 2 25]) (.leaf [qq 24 (.b2s (.tmp 23)),qq 18 (.call 26 [(.tmp 17)]),qq 25 (.bin .add (.tmp 18) (.tmp 24)),qm 2 25]))))) .ret)) .skip)) (.seq (.reg [qm 26 0,qq 27 (.bin .rem (.tmp 26) (ki 10)),qq 28 (.bin .add (ki 48) (.tmp 27)),qq 29 (.cvi .u8 (.tmp 28)),qq 30 (.bsl 5 [(.int .u8 0)] 1 [⟨0,⟨1,(.tmp 29)⟩⟩]),qq 31 (.b2s (.tmp 30)),qm 3 31]) (.seq (.seq (.reg [qm 32 0,qq 33 (.bin .lss (.tmp 32) (ki 10))]) (.cond (.tmp 33) (.seq (.reg [qm 34 3,qm 2 34]) .ret) .skip)) (.seq (.reg [qm 35 0,qq 36 (.bin .quo (.tmp 35) (ki 10)),qq 37 (.call 26 [(.tmp 36)]),qm 38 3,qq 39 (.bin .add (.tmp 37) (.tmp 38)),qm 2 39]) .ret)))))
theorem k26:conv Tryz.prog 40 (Tryz.f26.body.getD .skip)=c26:=by kernel_rfl
theorem in26 {a0:Value} {w:World} {R:Value→World→Prop} (h:G Tryz.prog Tryz.f26 40 [.c c26] R (frL 0 [a0]) w):Ret Tryz.prog 26 #[a0] w R:=G.enter (args:=[a0]) Tryz.func26 (c:=Tryz.f26.body.getD .skip) (by kernel_rfl) (by kernel_rfl) (by simp) k26 h
theorem rprint_spec:∀ (m:Nat) (n:Int) (w:World),n.natAbs < m→i64M n→Pu Tryz.prog 26 #[I n] w (S (Lib.itoa n)):=by
  intro m
  induction m with
  | zero=>intro n w h;omega
  | succ m ih =>
    intro n w hm hn
    obtain ⟨n0,n1⟩:=hn
    refine in26 ?_
    have hS:=Sep.start w
    by_cases hneg:n < 0
    · have hd:=tdiv_neg hneg
      have hr:=tmod_neg hneg
      by_cases hs:-10 < n
      · have hq:-((-n) / 10)=0:=by omega
        have hr2:-((-n) % 10)=n:=by omega
        rw [itoa_s1 hs hneg]
        (have fct:=(And.intro @hd (And.intro @hr (And.intro @hq @hr2)));repeat' (first|((with_reducible apply G.a);exact rfl)|refine G.reg fun K hK=>?_|(with_reducible (refine hK _ _ ?_);clear hK K)|(with_reducible (refine hK _ ?_);clear hK K;intro wd hxd;have hS:=Sep.xx hxd)|((first|have hk:=hK|have hk:=hK2);clear hk;simp (disch:=first|exact dis|fail) only [push_cast,↓reduceIte,zq1,zq2,zq3,zq4,zq5,fct])|(refine zbsl ?_;intro gb wb hS)|(refine G.drt mixed fun K hK wd hxd=>?_;have hS:=Sep.xx hxd)|with_reducible refine OT_leaf ?_|(with_reducible (refine hK2 _ ?_);clear hK2 K2;intro wd hxd;have hS:=Sep.xx hxd)|with_reducible refine OT_br fun K2 hK2=>?_|(refine hK2 _ _ ?_ ?_<;>clear hK2 K2)|refine G.drg mixed fun K hK=>?_|(refine G.cn ?_ ?_<;>intro hc<;>first|(with_reducible exact False.elim hc)|(exfalso;omega)|skip)))<;>(try clear fct)
        all_goals
          (first|refine G.r1 ?_|refine G.r2 ?_|refine G.r3 ?_|refine G.r0 ?_|refine G.d0 ?_);(try simp (disch:=first|exact dis|fail) only [push_cast,↓reduceIte,zq1,zq2,zq3,zq4,zq5,fct])
          (first|exact Sep.xt (by assumption)|exact ⟨rfl,Sep.xt (by assumption)⟩)
      · have hih:=fun w=>ih (-((-n) / 10)) w (by omega) ⟨by omega,by omega⟩
        have hlen:=Lib.itoa_length_le (-((-n) / 10)) (by omega) (by omega)
        rw [itoa_b1 (show n≤-10 by omega)]
        (have fct:=(And.intro @hd @hr);repeat' (first|((with_reducible apply G.a);exact rfl)|refine G.reg fun K hK=>?_|(with_reducible (refine hK _ _ ?_);clear hK K)|(with_reducible (refine hK _ ?_);clear hK K;intro wd hxd;have hS:=Sep.xx hxd)|((first|have hk:=hK|have hk:=hK2);clear hk;simp (disch:=first|exact dis|fail) only [push_cast,↓reduceIte,zq1,zq2,zq3,zq4,zq5,fct])|(refine zbsl ?_;intro gb wb hS)|(refine zcp 26 (hih _) ?_;intro wb hS)|(refine G.drt mixed fun K hK wd hxd=>?_;have hS:=Sep.xx hxd)|with_reducible refine OT_leaf ?_|(with_reducible (refine hK2 _ ?_);clear hK2 K2;intro wd hxd;have hS:=Sep.xx hxd)|with_reducible refine OT_br fun K2 hK2=>?_|(refine hK2 _ _ ?_ ?_<;>clear hK2 K2)|refine G.drg mixed fun K hK=>?_|(refine G.cn ?_ ?_<;>intro hc<;>first|(with_reducible exact False.elim hc)|(exfalso;omega)|skip)))<;>(try clear fct)
        all_goals
          (first|refine G.r1 ?_|refine G.r2 ?_|refine G.r3 ?_|refine G.r0 ?_|refine G.d0 ?_);(try simp (disch:=first|exact dis|fail) only [push_cast,↓reduceIte,zq1,zq2,zq3,zq4,zq5,fct])
          (first|exact Sep.xt (by assumption)|exact ⟨rfl,Sep.xt (by assumption)⟩)
    · by_cases hs:n < 10
      · rw [itoa_s0 (show 0≤n by omega) hs]
        have hr2:n % 10=n:=by omega
        (have fct:=@hr2;repeat' (first|((with_reducible apply G.a);exact rfl)|refine G.reg fun K hK=>?_|(with_reducible (refine hK _ _ ?_);clear hK K)|(with_reducible (refine hK _ ?_);clear hK K;intro wd hxd;have hS:=Sep.xx hxd)|((first|have hk:=hK|have hk:=hK2);clear hk;simp (disch:=first|exact dis|fail) only [push_cast,↓reduceIte,zq1,zq2,zq3,zq4,zq5,fct])|(refine zbsl ?_;intro gb wb hS)|(refine G.drt mixed fun K hK wd hxd=>?_;have hS:=Sep.xx hxd)|with_reducible refine OT_leaf ?_|(with_reducible (refine hK2 _ ?_);clear hK2 K2;intro wd hxd;have hS:=Sep.xx hxd)|with_reducible refine OT_br fun K2 hK2=>?_|(refine hK2 _ _ ?_ ?_<;>clear hK2 K2)|refine G.drg mixed fun K hK=>?_|(refine G.cn ?_ ?_<;>intro hc<;>first|(with_reducible exact False.elim hc)|(exfalso;omega)|skip)))<;>(try clear fct)
        all_goals
          (first|refine G.r1 ?_|refine G.r2 ?_|refine G.r3 ?_|refine G.r0 ?_|refine G.d0 ?_);(try simp (disch:=first|exact dis|fail) only [push_cast,↓reduceIte,zq1,zq2,zq3,zq4,zq5,fct])
          (first|exact Sep.xt (by assumption)|exact ⟨rfl,Sep.xt (by assumption)⟩)
      · have hih:=fun w=>ih (n / 10) w (by omega) ⟨by omega,by omega⟩
        have hlen:=Lib.itoa_length_le (n / 10) (by omega) (by omega)
        rw [itoa_b0 (show 10≤n by omega)]
        repeat' (first|((with_reducible apply G.a);exact rfl)|refine G.reg fun K hK=>?_|(with_reducible (refine hK _ _ ?_);clear hK K)|(with_reducible (refine hK _ ?_);clear hK K;intro wd hxd;have hS:=Sep.xx hxd)|((first|have hk:=hK|have hk:=hK2);clear hk;simp (disch:=first|exact dis|fail) only [push_cast,↓reduceIte,zq1,zq2,zq3,zq4,zq5,fct])|(refine zbsl ?_;intro gb wb hS)|(refine zcp 26 (hih _) ?_;intro wb hS)|(refine G.drt mixed fun K hK wd hxd=>?_;have hS:=Sep.xx hxd)|with_reducible refine OT_leaf ?_|(with_reducible (refine hK2 _ ?_);clear hK2 K2;intro wd hxd;have hS:=Sep.xx hxd)|with_reducible refine OT_br fun K2 hK2=>?_|(refine hK2 _ _ ?_ ?_<;>clear hK2 K2)|refine G.drg mixed fun K hK=>?_|(refine G.cn ?_ ?_<;>intro hc<;>first|(with_reducible exact False.elim hc)|(exfalso;omega)|skip))
        all_goals
          (first|refine G.r1 ?_|refine G.r2 ?_|refine G.r3 ?_|refine G.r0 ?_|refine G.d0 ?_);(try simp (disch:=first|exact dis|fail) only [push_cast,↓reduceIte,zq1,zq2,zq3,zq4,zq5,fct])
          (first|exact Sep.xt (by assumption)|exact ⟨rfl,Sep.xt (by assumption)⟩)
end Go.Proofs.YtllanbmpacgigaaGreatDoor
