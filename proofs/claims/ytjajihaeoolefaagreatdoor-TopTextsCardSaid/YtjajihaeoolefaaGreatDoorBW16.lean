/- Texts of the proof, joined. -/
import Derived.Lib.ItoaLen
import Derived.Test.YtjajihaeoolefaaGreatDoorBP16
import Derived.Test.YtjajihaeoolefaaGreatDoorBW17
namespace Go.Proofs.YtjajihaeoolefaaGreatDoor
open Nat renaming reduceAdd→zq1,reduceLeDiff→zq2,reduceEqDiff→zq3,reduceLT→zq4
open Int renaming reduceToNat→zq5
set_option linter.unusedSimpArgs false
set_option linter.unusedVariables false
attribute [local irreducible] SemK UnitK StK AlcK BslK CallK CallV Instr.box Builtin.append_ Instr.makeSlice Instr.makeMap Instr.lookup Instr.mapUpdate Instr.sliceAt convert
open Go.RowKit
theorem dropB16 (l:Str) (k:Nat) (h:(k:Int) < l.length):l.drop k=l.getD k 0 :: l.drop (k+1):=by
  rw [List.drop_eq_getElem_cons (by omega)];simp [List.getD,List.getElem?_eq_getElem (show k < l.length by omega)]
theorem u8ne16 {b:UInt8} {c:UInt8} {n:Int} (hn:(c.toNat:Int)=n) (h:¬ (b.toNat:Int)=n):¬ b=c:=fun e=>h (by rw [e];exact hn)
theorem u8eq16 {b:UInt8} {c:UInt8} {n:Int} (hn:(c.toNat:Int)=n) (h:(b.toNat:Int)=n):b=c:=UInt8.toNat_inj.1 (by omega)
theorem dgB_t {b:UInt8} (h1:48≤(b.toNat:Int)) (h2:(b.toNat:Int)≤57):dgB b=true:=by simp only [dgB,decide_eq_true_eq];omega
theorem dgB_f {b:UInt8} (h:(b.toNat:Int) < 48∨57 < (b.toNat:Int)):dgB b=false:=by simp only [dgB,decide_eq_false_iff_not];omega
theorem bod_at (b:UInt8) (r:Str):bodM (b :: r)=(!(decide (b=48)) && (b :: r).all dgB):=by
  simp only [bodM]
  by_cases h:b=48<;>simp [h]
theorem form_48:formM [48]=true:=by decide
theorem form_ne {s:Str} (h:¬ s=[48]):formM s=bodM (trM s):=by simp [formM,h]
def cf128:MC:=(.seq (.reg [qq 4 (.mv (.const (S [])))]) (.seq (.seq (.reg [qm 5 0,qm 6 1,qq 7 (.call 97 [(.tmp 5),(.tmp 6)])]) (.cond (.tmp 7) (.seq (.reg [qm 8 0,qm 9 1,qq 10 (.lenS (.tmp 9)),qq 11 (.slS (.tmp 8) (.some (.tmp 10)) none),qm 4 11]) .ret) .skip)) (.seq (.reg [qm 12 0,qm 4 12]) .ret)))
theorem k128:conv Tryz.prog 13 (Tryz.f128.body.getD .skip)=cf128:=by kernel_rfl
theorem in128 {a0 a1:Value} {w:World} {R:Value→World→Prop} (h:G Tryz.prog Tryz.f128 13 [.c cf128] R (frL 0 [a0,a1]) w):Ret Tryz.prog 128 #[a0,a1] w R:=G.enter (args:=[a0,a1]) Tryz.func128 (c:=Tryz.f128.body.getD .skip) (by kernel_rfl) (by kernel_rfl) (by simp) k128 h
theorem trim0_spec (s:Str) (w:World) (hl:s.length≤1000000000):Pu Tryz.prog 128 #[S s,S [45]] w (S (trM s)):=by
  refine in128 ?_
  have hS:=Sep.start w
  by_cases hc0:s.take 1=[45]
  · have hlen:1≤s.length:=by
      cases s with
      | nil=>simp at hc0
      | cons _ _=>simp
    have e:trM s=s.drop 1:=by simp [trM,negM,hc0]
    rw [e]
    repeat' (first|((with_reducible apply G.a);exact rfl)|refine G.reg fun K hK=>?_|(with_reducible (refine hK _ _ ?_);clear hK K)|(with_reducible (refine hK _ ?_);clear hK K;intro wd hxd;have hS:=Sep.ext (by assumption) hxd)|((first|have hk:=hK|have hk:=hK2);clear hk;simp (disch:=(first|exact dis|fail)) only [push_cast,↓reduceIte,zq1,zq2,zq3,zq4,zq5,decide_eq_true hc0])|((first|refine brO_mk ?_ ?_|refine brQ_mk ?_ ?_)<;>intro hb<;>(try simp only [Bool.not_eq_true',Bool.not_eq_false'] at hb)<;>have hc:=hb<;>(try simp only [hcs,reduceCtorEq] at hc)<;>(try (exfalso;omega))<;>simp only [hb]<;>clear hb)|(refine zalc ?_;intro gb wb hS)|(refine zbsl ?_;intro gb wb hS)|((with_reducible (show SemK _ (Instr.box _ _) _ _ _ _));refine zbox ?_;intro gb wb hS)|((with_reducible (show StK _ _ (Value.pointer _) _ _ _ _ _));refine zst ?_;intro wb hS;(try simp only [sets] at hS))|(refine zcv ?_)|(refine zcp 97 (hpre0_spec s 45 _ hl) ?_;intro wb hS)|(refine G.drt mixed fun K hK wd hxd=>?_;have hS:=Sep.ext (by assumption) hxd)|with_reducible refine OT_leaf ?_|(with_reducible refine OT_tail fun K2 hK2=>?_)|(with_reducible (refine hK2 _ ?_);clear hK2 K2;intro wd hxd;have hS:=Sep.ext (by assumption) hxd)|with_reducible refine OT_br fun K2 hK2=>?_|(refine hK2 _ _ ?_ ?_<;>clear hK2 K2)|refine G.drg mixed fun K hK=>?_|(refine G.cond (by simp only [push_cast,↓reduceIte,zq1,zq2,zq3,zq4,zq5,decide_eq_true hc0];rfl) ?_ ?_<;>intro hc<;>(try simp only [hcs,reduceCtorEq] at hc)<;>(try (exfalso;omega))))
    (first|refine G.r1 ?_|refine G.r2 ?_|refine G.r3 ?_|refine G.r0 ?_|refine G.d0 ?_);(try simp (disch:=first|exact dis|fail) only [push_cast,↓reduceIte,zq1,zq2,zq3,zq4,zq5,fct])
    (first|exact Sep.xt (by assumption)|exact ⟨rfl,Sep.xt (by assumption)⟩)
  · have e:trM s=s:=by simp [trM,negM,hc0]
    rw [e]
    repeat' (first|((with_reducible apply G.a);exact rfl)|refine G.reg fun K hK=>?_|(with_reducible (refine hK _ _ ?_);clear hK K)|(with_reducible (refine hK _ ?_);clear hK K;intro wd hxd;have hS:=Sep.ext (by assumption) hxd)|((first|have hk:=hK|have hk:=hK2);clear hk;simp (disch:=(first|exact dis|fail)) only [push_cast,↓reduceIte,zq1,zq2,zq3,zq4,zq5,decide_eq_false hc0])|((first|refine brO_mk ?_ ?_|refine brQ_mk ?_ ?_)<;>intro hb<;>(try simp only [Bool.not_eq_true',Bool.not_eq_false'] at hb)<;>have hc:=hb<;>(try simp only [hcs,reduceCtorEq] at hc)<;>(try (exfalso;omega))<;>simp only [hb]<;>clear hb)|(refine zalc ?_;intro gb wb hS)|(refine zbsl ?_;intro gb wb hS)|((with_reducible (show SemK _ (Instr.box _ _) _ _ _ _));refine zbox ?_;intro gb wb hS)|((with_reducible (show StK _ _ (Value.pointer _) _ _ _ _ _));refine zst ?_;intro wb hS;(try simp only [sets] at hS))|(refine zcv ?_)|(refine zcp 97 (hpre0_spec s 45 _ hl) ?_;intro wb hS)|(refine G.drt mixed fun K hK wd hxd=>?_;have hS:=Sep.ext (by assumption) hxd)|with_reducible refine OT_leaf ?_|(with_reducible refine OT_tail fun K2 hK2=>?_)|(with_reducible (refine hK2 _ ?_);clear hK2 K2;intro wd hxd;have hS:=Sep.ext (by assumption) hxd)|with_reducible refine OT_br fun K2 hK2=>?_|(refine hK2 _ _ ?_ ?_<;>clear hK2 K2)|refine G.drg mixed fun K hK=>?_|(refine G.cond (by simp only [push_cast,↓reduceIte,zq1,zq2,zq3,zq4,zq5,decide_eq_false hc0];rfl) ?_ ?_<;>intro hc<;>(try simp only [hcs,reduceCtorEq] at hc)<;>(try (exfalso;omega))))
    (first|refine G.r1 ?_|refine G.r2 ?_|refine G.r3 ?_|refine G.r0 ?_|refine G.d0 ?_);(try simp (disch:=first|exact dis|fail) only [push_cast,↓reduceIte,zq1,zq2,zq3,zq4,zq5,fct])
    (first|exact Sep.xt (by assumption)|exact ⟨rfl,Sep.xt (by assumption)⟩)
def c117:MC:=(.seq (.reg [qq 4 (.mv (.const (S [])))]) (.seq (.reg [qm 5 0,qm 6 1,qq 7 (.call 128 [(.tmp 5),(.tmp 6)]),qm 4 7]) .ret))
theorem k117:conv Tryz.prog 8 (Tryz.f117.body.getD .skip)=c117:=by kernel_rfl
theorem in117 {a0 a1:Value} {w:World} {R:Value→World→Prop} (h:G Tryz.prog Tryz.f117 8 [.c c117] R (frL 0 [a0,a1]) w):Ret Tryz.prog 117 #[a0,a1] w R:=G.enter (args:=[a0,a1]) Tryz.func117 (c:=Tryz.f117.body.getD .skip) (by kernel_rfl) (by kernel_rfl) (by simp) k117 h
theorem trim_spec (s:Str) (w:World) (hl:s.length≤1000000000):Pu Tryz.prog 117 #[S s,S [45]] w (S (trM s)):=by
  refine in117 ?_
  have hS:=Sep.start w
  repeat' (first|((with_reducible apply G.a);exact rfl)|refine G.reg fun K hK=>?_|(with_reducible (refine hK _ _ ?_);clear hK K)|(have hk:=hK;clear hk;simp (disch:=first|exact dis|fail) only [push_cast,↓reduceIte,zq1,zq2,zq3,zq4,zq5,fct])|(refine zcp 128 (trim0_spec s _ hl) ?_;intro wb hS))
  (first|refine G.r1 ?_|refine G.r2 ?_|refine G.r3 ?_|refine G.r0 ?_|refine G.d0 ?_);(try simp (disch:=first|exact dis|fail) only [push_cast,↓reduceIte,zq1,zq2,zq3,zq4,zq5,fct])
  (first|exact Sep.xt (by assumption)|exact ⟨rfl,Sep.xt (by assumption)⟩)
theorem tr_len (s:Str):(trM s).length≤s.length:=by unfold trM;split<;>simp
def c101l1:MC:=(.seq (.seq (.reg [qm 15 3,qm 16 0,qq 17 (.lenS (.tmp 16)),qq 18 (.bin .lss (.tmp 15) (.tmp 17))]) (.cond (.tmp 18) .skip (.exit 0))) (.seq (.blk 1 (.seq (.reg [qm 21 0,qm 22 3,qq 23 (.idxS (.tmp 21) (.tmp 22)),qq 24 (.bin .lss (.tmp 23) (.const (.int .u8 48))),qm 25 24,qmf 25 26 0,qmf 25 27 3,qf 25 28 (.idxS (.tmp 26) (.tmp 27)),qf 25 29 (.bin .gtr (.tmp 28) (.const (.int .u8 57))),qq 30 (.pick (.tmp 25) (kb true) (.tmp 29))]) (.cond (.tmp 30) (.seq (.reg [qq 2 (.mv (kb false))]) .ret) .skip))) (.reg [qm 19 3,qq 20 (.bin .add (.tmp 19) (ki 1)),qm 3 20])))
def c101:MC:=(.seq (.reg [qq 2 (.mv (kb false))]) (.seq (.seq (.reg [qm 4 0,qq 5 (.bin .eql (.tmp 4) (.const (S [48])))]) (.cond (.tmp 5) (.seq (.reg [qq 2 (.mv (kb true))]) .ret) .skip)) (.seq (.reg [qm 6 0,qq 7 (.call 117 [(.tmp 6),(.const (S [45]))]),qm 0 7]) (.seq (.seq (.reg [qm 8 0,qq 9 (.bin .eql (.tmp 8) (.const (S []))),qm 10 9,qmf 10 11 0,qf 10 12 (.idxS (.tmp 11) (ki 0)),qf 10 13 (.bin .eql (.tmp 12) (.const (.int .u8 48))),qq 14 (.pick (.tmp 10) (kb true) (.tmp 13))]) (.cond (.tmp 14) (.seq (.reg [qq 2 (.mv (kb false))]) .ret) .skip)) (.seq (.seq (.reg [qq 3 (.mv (ki 0))]) (.blk 0 (.loop c101l1))) (.seq (.reg [qq 2 (.mv (kb true))]) .ret))))))
theorem k101:conv Tryz.prog 31 (Tryz.f101.body.getD .skip)=c101:=by kernel_rfl
theorem in101 {a0:Value} {w:World} {R:Value→World→Prop} (h:G Tryz.prog Tryz.f101 31 [.c c101] R (frL 0 [a0]) w):Ret Tryz.prog 101 #[a0] w R:=G.enter (args:=[a0]) Tryz.func101 (c:=Tryz.f101.body.getD .skip) (by kernel_rfl) (by kernel_rfl) (by simp) k101 h
theorem form_spec (s:Str) (w:World) (hl:s.length≤1000000):Pu Tryz.prog 101 #[S s] w (.bool (formM s)):=by
  refine in101 ?_
  have hS:=Sep.start w
  by_cases h0:s=[48]
  · subst h0
    have hz:(([48]:Str) == [48])=true:=rfl
    (have fct:=@hz;repeat' (first|((with_reducible apply G.a);exact rfl)|refine G.reg fun K hK=>?_|(with_reducible (refine hK _ _ ?_);clear hK K)|(have hk:=hK;clear hk;simp (disch:=first|exact dis|fail) only [push_cast,↓reduceIte,zq1,zq2,zq3,zq4,zq5,fct])|(refine brO_n ?_ ?_<;>intro hb hc<;>first|(with_reducible exact False.elim hc)|(exfalso;omega)|(simp only [hb];clear hb))|(refine G.cn ?_ ?_<;>intro hc<;>first|(with_reducible exact False.elim hc)|(exfalso;omega)|skip)))<;>(try clear fct)
    (first|refine G.r1 ?_|refine G.r2 ?_|refine G.r3 ?_|refine G.r0 ?_|refine G.d0 ?_);(try simp (disch:=first|exact dis|fail) only [push_cast,↓reduceIte,zq1,zq2,zq3,zq4,zq5,fct])
    rw [form_48]
    (first|exact Sep.xt (by assumption)|exact ⟨rfl,Sep.xt (by assumption)⟩)
  · have hz : (s == [48])=false:=by simpa using h0
    have hf:=form_ne h0
    have htl:=tr_len s
    generalize ht:trM s=t at hf htl
    cases t with
    | nil =>
      have hz2:(([]:Str) == [])=true:=rfl
      (have fct:=(And.intro @hz (And.intro @ht @hz2));repeat' (first|((with_reducible apply G.a);exact rfl)|refine G.reg fun K hK=>?_|(with_reducible (refine hK _ _ ?_);clear hK K)|(have hk:=hK;clear hk;simp (disch:=first|exact dis|fail) only [push_cast,↓reduceIte,zq1,zq2,zq3,zq4,zq5,fct])|(refine brO_n ?_ ?_<;>intro hb hc<;>first|(with_reducible exact False.elim hc)|(exfalso;omega)|(simp only [hb];clear hb))|(refine zcp 117 (trim_spec s _ (by omega)) ?_;intro wb hS)|(refine G.cn ?_ ?_<;>intro hc<;>first|(with_reducible exact False.elim hc)|(exfalso;omega)|skip)))<;>(try clear fct)
      (first|refine G.r1 ?_|refine G.r2 ?_|refine G.r3 ?_|refine G.r0 ?_|refine G.d0 ?_);(try simp (disch:=first|exact dis|fail) only [push_cast,↓reduceIte,zq1,zq2,zq3,zq4,zq5,fct])
      rw [hf]
      exact ⟨rfl,Sep.xt (by assumption)⟩
    | cons b r =>
      have hz2:(b :: r == [])=false:=by simp
      rw [bod_at] at hf
      (have fct:=(And.intro @hz (And.intro @ht @hz2));repeat' (first|((with_reducible apply G.a);exact rfl)|refine G.reg fun K hK=>?_|(with_reducible (refine hK _ _ ?_);clear hK K)|(have hk:=hK;clear hk;simp (disch:=first|exact dis|fail) only [push_cast,↓reduceIte,zq1,zq2,zq3,zq4,zq5,fct])|(refine brO_n ?_ ?_<;>intro hb hc<;>first|(with_reducible exact False.elim hc)|(exfalso;omega)|(simp only [hb];clear hb))|(refine zcp 117 (trim_spec s _ (by omega)) ?_;intro wb hS)|(refine G.cn ?_ ?_<;>intro hc<;>first|(with_reducible exact False.elim hc)|(exfalso;omega)|skip)))<;>(try clear fct)
      · (first|refine G.r1 ?_|refine G.r2 ?_|refine G.r3 ?_|refine G.r0 ?_|refine G.d0 ?_);(try simp (disch:=first|exact dis|fail) only [push_cast,↓reduceIte,zq1,zq2,zq3,zq4,zq5,fct])
        rw [hf,u8eq16 (c:=48) (n:=48) rfl hc]
        exact ⟨rfl,Sep.xt (by assumption)⟩
      · rw [decide_eq_false (u8ne16 (n:=48) rfl hc),Bool.not_false,Bool.true_and] at hf
        generalize b :: r=t at *
        refine G.loop (fun r w'=>∃ k:Nat,k≤t.length∧r 3=I k∧r 0=S t∧t.all dgB=(t.drop k).all dgB∧Sep w w' []) (fun r _=>t.length - toN (r 3)) ?_ ?_
        · refine ⟨0,?_⟩
          ((repeat' apply And.intro)<;>first|exact dj|(simp only [push_cast,↓reduceIte,zq1,zq2,zq3,zq4,zq5]<;>omega)|skip)
          all_goals rfl
        · clear hS
          rintro u wl ⟨k,hk,h3,q0,e,hS⟩ ih
          by_cases hlt:(k:Int) < t.length
          · rw [dropB16 t k hlt,List.all_cons] at e
            (have fct:=(And.intro @h3 @q0);repeat' (first|((with_reducible apply G.a);exact rfl)|refine G.reg fun K hK=>?_|(with_reducible (refine hK _ _ ?_);clear hK K)|(have hk:=hK;clear hk;simp (disch:=first|exact dis|fail) only [push_cast,↓reduceIte,zq1,zq2,zq3,zq4,zq5,fct])|(refine brO_n ?_ ?_<;>intro hb hc<;>first|(with_reducible exact False.elim hc)|(exfalso;omega)|(simp only [hb];clear hb))|(refine G.cn ?_ ?_<;>intro hc<;>first|(with_reducible exact False.elim hc)|(exfalso;omega)|skip)))<;>(try clear fct)
            all_goals first
              | ((have fct:=(And.intro @h3 @q0);(first|refine G.r1 ?_|refine G.r2 ?_|refine G.r3 ?_|refine G.r0 ?_|refine G.d0 ?_);(try simp (disch:=first|exact dis|fail) only [push_cast,↓reduceIte,zq1,zq2,zq3,zq4,zq5,fct]);(try clear fct));rw [hf,e,dgB_f (by omega),Bool.false_and];exact Sep.xt (by assumption))
              | ((have fct:=(And.intro @h3 @q0);(first|refine G.r1 ?_|refine G.r2 ?_|refine G.r3 ?_|refine G.r0 ?_|refine G.d0 ?_);(try simp (disch:=first|exact dis|fail) only [push_cast,↓reduceIte,zq1,zq2,zq3,zq4,zq5,fct]);(try clear fct));rw [hf,e,dgB_f (by omega),Bool.false_and];exact ⟨rfl,Sep.xt (by assumption)⟩)
              | (rw [dgB_t (by omega) (by omega),Bool.true_and] at e;(refine ih _ _ ⟨k+1,?_⟩ ?_;rotate_left;(focus ((simp only [push_cast,↓reduceIte,zq1,zq2,zq3,zq4,zq5,toN_i,h3,q0]<;>omega)));((repeat' apply And.intro)<;>first|exact dj|(simp only [push_cast,↓reduceIte,zq1,zq2,zq3,zq4,zq5,h3,q0]<;>omega)|skip));done)
          · (have fct:=(And.intro @h3 @q0);repeat' (first|((with_reducible apply G.a);exact rfl)|refine G.reg fun K hK=>?_|(with_reducible (refine hK _ _ ?_);clear hK K)|(have hk:=hK;clear hk;simp (disch:=first|exact dis|fail) only [push_cast,↓reduceIte,zq1,zq2,zq3,zq4,zq5,fct])|(refine brO_n ?_ ?_<;>intro hb hc<;>first|(with_reducible exact False.elim hc)|(exfalso;omega)|(simp only [hb];clear hb))|(refine G.cn ?_ ?_<;>intro hc<;>first|(with_reducible exact False.elim hc)|(exfalso;omega)|skip)))<;>(try clear fct)
            (have fct:=(And.intro @h3 @q0);(first|refine G.r1 ?_|refine G.r2 ?_|refine G.r3 ?_|refine G.r0 ?_|refine G.d0 ?_);(try simp (disch:=first|exact dis|fail) only [push_cast,↓reduceIte,zq1,zq2,zq3,zq4,zq5,fct]);(try clear fct))
            rw [hf,e,List.drop_eq_nil_of_le (by omega)]
            exact ⟨rfl,Sep.xt (by assumption)⟩
end Go.Proofs.YtjajihaeoolefaaGreatDoor
namespace Go.Proofs.YtjajihaeoolefaaGreatDoor
open Nat renaming reduceAdd→zq1,reduceLeDiff→zq2,reduceEqDiff→zq3,reduceLT→zq4
open Int renaming reduceToNat→zq5
set_option linter.unusedSimpArgs false
set_option linter.unusedVariables false
attribute [local irreducible] SemK UnitK StK AlcK BslK CallK CallV Instr.box Builtin.append_ Instr.makeSlice Instr.makeMap Instr.lookup Instr.mapUpdate Instr.sliceAt convert
open Go.RowKit
def c84:MC:=(.seq (.reg [qq 2 (.mv (ki 0)),qq 3 (.mv (ki 0))]) (.seq (.seq (.reg [qm 6 0,qq 7 (.call 101 [(.tmp 6)]),qq 8 (.un .not (.tmp 7))]) (.cond (.tmp 8) (.seq (.reg [qq 2 (.mv (ki 0)),qq 3 (.mv (ki 17))]) .ret) .skip)) (.seq (.reg [qm 10 0,qq 11 (.call 102 [(.tmp 10),(ki 10),(ki 64)]),qm 9 11,qq 12 (.ext 0 (.tmp 9)),qq 13 (.ext 1 (.tmp 9)),qm 4 12,qm 5 13]) (.seq (.seq (.reg [qm 14 5,qq 15 (.raw (.binOp .neq 138 (.tmp 14) (.const .nilIface) 138) 4)]) (.cond (.tmp 15) (.seq (.reg [qq 2 (.mv (ki 0)),qq 3 (.mv (ki 18))]) .ret) .skip)) (.seq (.reg [qm 16 4,qm 2 16,qq 3 (.mv (ki 0))]) .ret)))))
theorem k84:conv Tryz.prog 17 (Tryz.f84.body.getD .skip)=c84:=by kernel_rfl
theorem in84 {a0:Value} {w:World} {R:Value→World→Prop} (h:G Tryz.prog Tryz.f84 17 [.c c84] R (frL 0 [a0]) w):Ret Tryz.prog 84 #[a0] w R:=G.enter (args:=[a0]) Tryz.func84 (c:=Tryz.f84.body.getD .skip) (by kernel_rfl) (by kernel_rfl) (by simp) k84 h
theorem parse16_spec (s:Str) (w:World) (hl:s.length≤1000000) (hv:ErrV w):Pu Tryz.prog 84 #[S s] w (.tuple #[I (pnM s).1,I (pnM s).2]):=by
  refine in84 ?_
  have hS:=Sep.start w
  unfold pnM
  by_cases hf:formM s=true
  · rw [if_neg (by rw [hf];simp)]
    by_cases hr:-9223372036854775808≤numM s∧numM s≤9223372036854775807
    · rw [if_pos hr]
      (have fct:=@hf;repeat' (first|((with_reducible apply G.a);exact rfl)|refine G.reg fun K hK=>?_|(with_reducible (refine hK _ _ ?_);clear hK K)|(have hk:=hK;clear hk;simp (disch:=first|exact dis|fail) only [push_cast,↓reduceIte,zq1,zq2,zq3,zq4,zq5,fct])|(refine zcp 101 (form_spec s _ hl) ?_;intro wb hS)|(refine zcp 102 (pi_ok s _ hl hf hr) ?_;intro wb hS)|(refine znn ?_)|(refine G.cn ?_ ?_<;>intro hc<;>first|(with_reducible exact False.elim hc)|(exfalso;omega)|skip)))<;>(try clear fct)
      (first|refine G.r1 ?_|refine G.r2 ?_|refine G.r3 ?_|refine G.r0 ?_|refine G.d0 ?_);(try simp (disch:=first|exact dis|fail) only [push_cast,↓reduceIte,zq1,zq2,zq3,zq4,zq5,fct])
      (first|exact Sep.xt (by assumption)|exact ⟨rfl,Sep.xt (by assumption)⟩)
    · rw [if_neg hr]
      (have fct:=@hf;repeat' (first|((with_reducible apply G.a);exact rfl)|refine G.reg fun K hK=>?_|(with_reducible (refine hK _ _ ?_);clear hK K)|(have hk:=hK;clear hk;simp (disch:=first|exact dis|fail) only [push_cast,↓reduceIte,zq1,zq2,zq3,zq4,zq5,fct])|(refine zcp 101 (form_spec s _ hl) ?_;intro wb hS)|(refine zco 102 (pi_range s _ hl hf hr (hv.ext hS.x)) ?_;rintro vb wb ⟨n,t,p,rfl,hx⟩;have hS:=Sep.ext hS hx)|(refine zns ?_)|(refine G.cn ?_ ?_<;>intro hc<;>first|(with_reducible exact False.elim hc)|(exfalso;omega)|skip)))<;>(try clear fct)
      (first|refine G.r1 ?_|refine G.r2 ?_|refine G.r3 ?_|refine G.r0 ?_|refine G.d0 ?_);(try simp (disch:=first|exact dis|fail) only [push_cast,↓reduceIte,zq1,zq2,zq3,zq4,zq5,fct])
      (first|exact Sep.xt (by assumption)|exact ⟨rfl,Sep.xt (by assumption)⟩)
  · have hff:formM s=false:=by simpa using hf
    rw [if_pos hff]
    (have fct:=@hff;repeat' (first|((with_reducible apply G.a);exact rfl)|refine G.reg fun K hK=>?_|(with_reducible (refine hK _ _ ?_);clear hK K)|(have hk:=hK;clear hk;simp (disch:=first|exact dis|fail) only [push_cast,↓reduceIte,zq1,zq2,zq3,zq4,zq5,fct])|(refine zcp 101 (form_spec s _ hl) ?_;intro wb hS)|(refine G.cn ?_ ?_<;>intro hc<;>first|(with_reducible exact False.elim hc)|(exfalso;omega)|skip)))<;>(try clear fct)
    (first|refine G.r1 ?_|refine G.r2 ?_|refine G.r3 ?_|refine G.r0 ?_|refine G.d0 ?_);(try simp (disch:=first|exact dis|fail) only [push_cast,↓reduceIte,zq1,zq2,zq3,zq4,zq5,fct])
    (first|exact Sep.xt (by assumption)|exact ⟨rfl,Sep.xt (by assumption)⟩)
end Go.Proofs.YtjajihaeoolefaaGreatDoor
namespace Go.Proofs.YtjajihaeoolefaaGreatDoor
open Nat renaming reduceAdd→zq1,reduceLeDiff→zq2,reduceEqDiff→zq3,reduceLT→zq4
open Int renaming reduceToNat→zq5
set_option linter.unusedSimpArgs false
set_option linter.unusedVariables false
attribute [local irreducible] SemK UnitK StK AlcK BslK CallK CallV Instr.box Builtin.append_ Instr.makeSlice Instr.makeMap Instr.lookup Instr.mapUpdate Instr.sliceAt convert
open Go.RowKit
end Go.Proofs.YtjajihaeoolefaaGreatDoor
namespace Go.Proofs.YtjajihaeoolefaaGreatDoor
open Nat renaming reduceAdd→zq1,reduceLeDiff→zq2,reduceEqDiff→zq3,reduceLT→zq4
open Int renaming reduceToNat→zq5
set_option linter.unusedSimpArgs false
set_option linter.unusedVariables false
attribute [local irreducible] SemK UnitK StK AlcK BslK CallK CallV Instr.box Builtin.append_ Instr.makeSlice Instr.makeMap Instr.lookup Instr.mapUpdate Instr.sliceAt convert
open Go.RowKit
end Go.Proofs.YtjajihaeoolefaaGreatDoor
namespace Go.Proofs.YtjajihaeoolefaaGreatDoor
open Nat renaming reduceAdd→zq1,reduceLeDiff→zq2,reduceEqDiff→zq3,reduceLT→zq4
open Int renaming reduceToNat→zq5
set_option linter.unusedSimpArgs false
set_option linter.unusedVariables false
open Go.RowKit
theorem cpre_spec (s:Str) (c:UInt8) (w:World) (hl:s.length≤1000000000):Pu Tryz.prog 87 #[S s,S [c]] w (.tuple #[S (if s.take 1=[c] then s.drop 1 else s),.bool (decide (s.take 1=[c]))]):=by
  have h:=cutp_spec s [c] w hl (by simp)
  have e:(s.take [c].length == [c])=decide (s.take 1=[c]):=by rw [Bool.eq_iff_iff];simp
  rw [e] at h;simpa using h
end Go.Proofs.YtjajihaeoolefaaGreatDoor
namespace Go.Proofs.YtjajihaeoolefaaGreatDoor
open Nat renaming reduceAdd→zq1,reduceLeDiff→zq2,reduceEqDiff→zq3,reduceLT→zq4
open Int renaming reduceToNat→zq5
set_option linter.unusedSimpArgs false
set_option linter.unusedVariables false
attribute [local irreducible] SemK UnitK StK AlcK BslK CallK CallV Instr.box Builtin.append_ Instr.makeSlice Instr.makeMap Instr.lookup Instr.mapUpdate Instr.sliceAt convert
open Go.RowKit
def deM (s:Str) (k:Int) (nl:Bool):Val×Int :=
  if ¬ (1≤k∧k≤3) then (⟨0,[],0,false⟩,22) else if nl=true∧s=[] then (⟨0,[],0,false⟩,0)
  else if k=2 then (if (pnM s).2≠0 then (⟨0,[],0,false⟩,(pnM s).2) else (⟨2,[],(pnM s).1,false⟩,0))
  else if k=3 then (if s=[116,114,117,101] then (⟨3,[],0,true⟩,0) else if s=[102,97,108,115,101] then (⟨3,[],0,false⟩,0) else (⟨0,[],0,false⟩,19))
  else if validM s=false then (⟨0,[],0,false⟩,14) else if nl=false∨¬ s.take 1=[92] then (⟨1,s,0,false⟩,0)
  else if s.drop 1≠[]∧¬ (s.drop 1).take 1=[92] then (⟨0,[],0,false⟩,23) else (⟨1,s.drop 1,0,false⟩,0)
theorem de_fin {v:Val} {n:Int} {p:Val×Int} (h:p=(v,n)):Value.tuple #[.agg #[I v.kind,S v.s,I v.n,.bool v.b],.int .i64 n]=.tuple #[.agg #[I p.1.kind,S p.1.s,I p.1.n,.bool p.1.b],I p.2]:=by rw [h]
def c64:MC:=(.seq (.reg [qq 3 (.raw (.box 74 (.tmp 1)) 0),qq 4 (.alc 84 [(.int .i64 0),(S []),(.int .i64 0),(.bool false)]),qq 5 (.mv (ki 0))]) (.seq (.seq (.reg [qq 10 (.fad 1 (.tmp 3)),qq 11 (.ld none (.tmp 10)),qq 12 (.call 75 [(.tmp 11)]),qq 13 (.un .not (.tmp 12))]) (.cond (.tmp 13) (.seq (.reg [qq 14 (.bld [(.int .i64 0),(S []),(.int .i64 0),(.bool false)] []),qn (.st 4 (.tmp 4) (.tmp 14)),qq 5 (.mv (ki 22))]) .ret) .skip)) (.seq (.seq (.reg [qq 15 (.fad 2 (.tmp 3)),qq 16 (.ld none (.tmp 15)),qm 17 16,qmt 17 18 0,qt 17 19 (.bin .eql (.tmp 18) (.const (S []))),qq 20 (.pick (.tmp 17) (.tmp 19) (kb false))]) (.cond (.tmp 20) (.seq (.reg [qq 21 (.bld [(.int .i64 0),(S []),(.int .i64 0),(.bool false)] []),qn (.st 4 (.tmp 4) (.tmp 21)),qq 5 (.mv (ki 0))]) .ret) .skip)) (.seq (.seq (.reg [qq 22 (.fad 1 (.tmp 3)),qq 23 (.ld none (.tmp 22))]) (.blk 0 (.seq (.reg [qq 25 (.bin .eql (.tmp 23) (ki 2)),qm 24 25]) (.cond (.tmp 24) (.seq (.reg [qm 27 0,qq 28 (.call 84 [(.tmp 27)]),qm 26 28,qq 29 (.ext 0 (.tmp 26)),qq 30 (.ext 1 (.tmp 26)),qm 6 29,qm 7 30]) (.seq (.seq (.reg [qm 31 7,qq 32 (.bin .neq (.tmp 31) (ki 0))]) (.cond (.tmp 32) (.seq (.reg [qq 33 (.bld [(.int .i64 0),(S []),(.int .i64 0),(.bool false)] []),qm 34 7,qn (.st 4 (.tmp 4) (.tmp 33)),qm 5 34]) .ret) .skip)) (.seq (.reg [qm 35 6,qq 36 (.call 85 [(.tmp 35)]),qn (.st 4 (.tmp 4) (.tmp 36)),qq 5 (.mv (ki 0))]) .ret))) (.seq (.reg [qq 38 (.bin .eql (.tmp 23) (ki 3)),qm 37 38]) (.cond (.tmp 37) (.seq (.seq (.reg [qm 39 0,qq 40 (.bin .neq (.tmp 39) (.const (S [116,114,117,101]))),qm 41 40,qmt 41 42 0,qt 41 43 (.bin .neq (.tmp 42) (.const (S [102,97,108,115,101]))),qq 44 (.pick (.tmp 41) (.tmp 43) (kb false))]) (.cond (.tmp 44) (.seq (.reg [qq 45 (.bld [(.int .i64 0),(S []),(.int .i64 0),(.bool false)] []),qn (.st 4 (.tmp 4) (.tmp 45)),qq 5 (.mv (ki 19))]) .ret) .skip)) (.seq (.reg [qm 46 0,qq 47 (.bin .eql (.tmp 46) (.const (S [116,114,117,101]))),qq 48 (.call 86 [(.tmp 47)]),qn (.st 4 (.tmp 4) (.tmp 48)),qq 5 (.mv (ki 0))]) .ret)) .skip)))))) (.seq (.seq (.reg [qm 49 0,qq 50 (.call 55 [(.tmp 49)]),qq 51 (.un .not (.tmp 50))]) (.cond (.tmp 51) (.seq (.reg [qq 52 (.bld [(.int .i64 0),(S []),(.int .i64 0),(.bool false)] []),qn (.st 4 (.tmp 4) (.tmp 52)),qq 5 (.mv (ki 14))]) .ret) .skip)) (.seq (.reg [qm 54 0,qq 55 (.call 87 [(.tmp 54),(.const (S [92]))]),qm 53 55,qq 56 (.ext 0 (.tmp 53)),qq 57 (.ext 1 (.tmp 53)),qm 8 56,qm 9 57]) (.seq (.seq (.reg [qq 58 (.fad 2 (.tmp 3)),qq 59 (.ld none (.tmp 58)),qq 60 (.un .not (.tmp 59)),qm 61 60,qmf 61 62 9,qf 61 63 (.un .not (.tmp 62)),qq 64 (.pick (.tmp 61) (kb true) (.tmp 63))]) (.cond (.tmp 64) (.seq (.reg [qm 65 0,qq 66 (.call 88 [(.tmp 65)]),qn (.st 4 (.tmp 4) (.tmp 66)),qq 5 (.mv (ki 0))]) .ret) .skip)) (.seq (.seq (.reg [qm 67 8,qq 68 (.bin .neq (.tmp 67) (.const (S []))),qm 69 68,qmt 69 70 8,qt 69 71 (.call 78 [(.tmp 70),(.const (S [92]))]),qt 69 72 (.un .not (.tmp 71)),qq 73 (.pick (.tmp 69) (.tmp 72) (kb false))]) (.cond (.tmp 73) (.seq (.reg [qq 74 (.bld [(.int .i64 0),(S []),(.int .i64 0),(.bool false)] []),qn (.st 4 (.tmp 4) (.tmp 74)),qq 5 (.mv (ki 23))]) .ret) .skip)) (.seq (.reg [qm 75 8,qq 76 (.call 88 [(.tmp 75)]),qn (.st 4 (.tmp 4) (.tmp 76)),qq 5 (.mv (ki 0))]) .ret)))))))))
theorem k64:conv Tryz.prog 77 (Tryz.f64.body.getD .skip)=c64:=by kernel_rfl
theorem in64 {a0 a1:Value} {w:World} {R:Value→World→Prop} (h:G Tryz.prog Tryz.f64 77 [.c c64] R (frL 0 [a0,a1]) w):Ret Tryz.prog 64 #[a0,a1] w R:=G.enter (args:=[a0,a1]) Tryz.func64 (c:=Tryz.f64.body.getD .skip) (by kernel_rfl) (by kernel_rfl) (by simp) k64 h
theorem dec_spec (s:Str) (nm:Str) (k:Int) (nl:Bool) (w:World) (hl:s.length≤1000000) (hv:ErrV w):Pu Tryz.prog 64 #[S s,.agg #[S nm,I k,.bool nl]] w (.tuple #[(.agg #[I (deM s k nl).1.kind,S (deM s k nl).1.s,I (deM s k nl).1.n,.bool (deM s k nl).1.b]),I (deM s k nl).2]):=by
  refine in64 ?_
  have hS:=Sep.start w
  by_cases hk:1≤k∧k≤3
  · repeat' (first|((with_reducible apply G.a);exact rfl)|refine G.reg fun K hK=>?_|(with_reducible (refine hK _ _ ?_);clear hK K)|(with_reducible (refine hK _ ?_);clear hK K;intro wd hxd;have hS:=Sep.ext (by assumption) hxd)|((first|have hk:=hK|have hk:=hK2);clear hk;simp (disch:=(first|exact dis|fail)) only [push_cast,↓reduceIte,zq1,zq2,zq3,zq4,zq5,decide_eq_true hk])|((first|refine brO_mk ?_ ?_|refine brQ_mk ?_ ?_)<;>intro hb<;>(try simp only [Bool.not_eq_true',Bool.not_eq_false'] at hb)<;>have hc:=hb<;>(try simp only [hcs,reduceCtorEq] at hc)<;>(try (exfalso;omega))<;>simp only [hb]<;>clear hb)|(refine zalc ?_;intro gb wb hS)|(refine zbsl ?_;intro gb wb hS)|((with_reducible (show SemK _ (Instr.box _ _) _ _ _ _));refine zbox ?_;intro gb wb hS)|((with_reducible (show StK _ _ (Value.pointer _) _ _ _ _ _));refine zst ?_;intro wb hS;(try simp only [sets] at hS))|(refine zcv ?_)|(refine zcp 75 (known_spec k _) ?_;intro wb hS)|(refine zcp 84 (parse16_spec s _ hl (hv.ext hS.x)) ?_;intro wb hS)|(refine zcp 85 (int17_spec _ _) ?_;intro wb hS)|(refine zcp 86 (bool17_spec _ _) ?_;intro wb hS)|(refine zcp 88 (text17_spec _ _) ?_;intro wb hS)|(refine zcp 55 (valid_spec _ _ (by omega)) ?_;intro wb hS)|(refine zcp 87 (cpre_spec s 92 _ (by omega)) ?_;intro wb hS)|(refine zcp 78 (hpre_spec _ 92 _ (by (try simp only [apply_ite List.length]);(try split)<;>simp<;>omega)) ?_;intro wb hS)|(refine G.drt mixed fun K hK wd hxd=>?_;have hS:=Sep.ext (by assumption) hxd)|with_reducible refine OT_leaf ?_|(with_reducible refine OT_tail fun K2 hK2=>?_)|(with_reducible (refine hK2 _ ?_);clear hK2 K2;intro wd hxd;have hS:=Sep.ext (by assumption) hxd)|with_reducible refine OT_br fun K2 hK2=>?_|(refine hK2 _ _ ?_ ?_<;>clear hK2 K2)|refine G.drg mixed fun K hK=>?_|(refine G.cond (by simp only [push_cast,↓reduceIte,zq1,zq2,zq3,zq4,zq5,decide_eq_true hk];rfl) ?_ ?_<;>intro hc<;>(try simp only [hcs,reduceCtorEq] at hc)<;>(try (exfalso;omega))))
    all_goals
      (first|refine G.r1 ?_|refine G.r2 ?_|refine G.r3 ?_|refine G.r0 ?_|refine G.d0 ?_);(try simp (disch:=first|exact dis|fail) only [push_cast,↓reduceIte,zq1,zq2,zq3,zq4,zq5,fct])
      refine ⟨?_,Sep.xt (by assumption)⟩
      clear hS
      first
        | refine de_fin (v:=⟨0,[],0,false⟩) ?_
        | refine de_fin (v:=⟨2,[],(pnM s).1,false⟩) ?_
        | refine de_fin (v:=⟨3,[],0,s == [116,114,117,101]⟩) ?_
        | refine de_fin (v:=⟨1,s,0,false⟩) ?_
        | refine de_fin (v:=⟨1,if s.take 1=[92] then s.drop 1 else s,0,false⟩) ?_
      unfold deM
      first|(simp_all;done)|grind
  · repeat' (first|((with_reducible apply G.a);exact rfl)|refine G.reg fun K hK=>?_|(with_reducible (refine hK _ _ ?_);clear hK K)|(with_reducible (refine hK _ ?_);clear hK K;intro wd hxd;have hS:=Sep.ext (by assumption) hxd)|((first|have hk:=hK|have hk:=hK2);clear hk;simp (disch:=(first|exact dis|fail)) only [push_cast,↓reduceIte,zq1,zq2,zq3,zq4,zq5,decide_eq_false hk])|((first|refine brO_mk ?_ ?_|refine brQ_mk ?_ ?_)<;>intro hb<;>(try simp only [Bool.not_eq_true',Bool.not_eq_false'] at hb)<;>have hc:=hb<;>(try simp only [hcs,reduceCtorEq] at hc)<;>(try (exfalso;omega))<;>simp only [hb]<;>clear hb)|(refine zalc ?_;intro gb wb hS)|(refine zbsl ?_;intro gb wb hS)|((with_reducible (show SemK _ (Instr.box _ _) _ _ _ _));refine zbox ?_;intro gb wb hS)|((with_reducible (show StK _ _ (Value.pointer _) _ _ _ _ _));refine zst ?_;intro wb hS;(try simp only [sets] at hS))|(refine zcv ?_)|(refine zcp 75 (known_spec k _) ?_;intro wb hS)|(refine G.drt mixed fun K hK wd hxd=>?_;have hS:=Sep.ext (by assumption) hxd)|with_reducible refine OT_leaf ?_|(with_reducible refine OT_tail fun K2 hK2=>?_)|(with_reducible (refine hK2 _ ?_);clear hK2 K2;intro wd hxd;have hS:=Sep.ext (by assumption) hxd)|with_reducible refine OT_br fun K2 hK2=>?_|(refine hK2 _ _ ?_ ?_<;>clear hK2 K2)|refine G.drg mixed fun K hK=>?_|(refine G.cond (by simp only [push_cast,↓reduceIte,zq1,zq2,zq3,zq4,zq5,decide_eq_false hk];rfl) ?_ ?_<;>intro hc<;>(try simp only [hcs,reduceCtorEq] at hc)<;>(try (exfalso;omega))))
    (first|refine G.r1 ?_|refine G.r2 ?_|refine G.r3 ?_|refine G.r0 ?_|refine G.d0 ?_);(try simp (disch:=first|exact dis|fail) only [push_cast,↓reduceIte,zq1,zq2,zq3,zq4,zq5,fct])
    refine ⟨de_fin (v:=⟨0,[],0,false⟩) ?_,Sep.xt (by assumption)⟩
    unfold deM;rw [if_pos hk]
end Go.Proofs.YtjajihaeoolefaaGreatDoor
namespace Go.Proofs.YtjajihaeoolefaaGreatDoor
open Nat renaming reduceAdd→zq1,reduceLeDiff→zq2,reduceEqDiff→zq3,reduceLT→zq4
open Int renaming reduceToNat→zq5
set_option linter.unusedSimpArgs false
set_option linter.unusedVariables false
open Go.RowKit
theorem valid_92 (s:Str):validM (92 :: s)=validM s:=(valid_app [92] s (by decide +kernel)).1
theorem dec_enc (v:Val) (k:Int) (nl:Bool) (hn:i64M v.n) (h:(encM v k nl).2=0):deM (encM v k nl).1 k nl=(v,0):=by
  unfold encM at h ⊢
  by_cases hk:¬ (1≤k∧k≤3)
  · rw [if_pos hk] at h;simp at h
  rw [if_neg hk] at h ⊢
  by_cases hr:¬ (rightM v=true∧(v.kind=0∨v.kind=k))
  · rw [if_pos hr] at h;simp at h
  rw [if_neg hr] at h ⊢
  simp only [Decidable.not_not] at hk hr
  have hri:=(right_iff v).1 hr.1
  unfold deM
  rw [if_neg (not_not_intro hk)]
  by_cases h0:v.kind=0
  · rw [if_pos h0] at h ⊢
    have hnl:nl=true:=by
      cases nl with
      | true=>rfl
      | false=>simp at h
    have hz:v=⟨0,[],0,false⟩:=by
      rcases hri with ⟨a,b,c,d⟩|⟨a,_⟩|⟨a,_⟩|⟨a,_⟩
      · exact val_ext a b c d
      · omega
      · omega
      · omega
    subst hnl
    simp [hz]
  · rw [if_neg h0] at h ⊢
    have hvk:v.kind=k:=hr.2.resolve_left h0
    by_cases h2:v.kind=2
    · rw [if_pos h2]
      have e:v=⟨2,[],v.n,false⟩:=by
        rcases hri with ⟨a,_⟩|⟨a,_⟩|⟨a,b,c⟩|⟨a,_⟩
        · omega
        · omega
        · exact val_ext a b rfl c
        · omega
      have hp:=par_itoa hn.1 hn.2
      have hne:=itoa_ne v.n
      simp only [hne,and_false,if_false]
      rw [if_pos (by omega),hp]
      simp [←e]
    · rw [if_neg h2] at h ⊢
      by_cases h3:v.kind=3
      · rw [if_pos h3]
        have e:v=⟨3,[],0,v.b⟩:=by
          rcases hri with ⟨a,_⟩|⟨a,_⟩|⟨a,_⟩|⟨a,b,c⟩
          · omega
          · omega
          · omega
          · exact val_ext a b c rfl
        have k2:¬ k=2:=by omega
        have k3:k=3:=by omega
        cases hb:v.b<;>rw [hb] at e<;>simp [k3,e]
      · rw [if_neg h3] at h ⊢
        have k2:¬ k=2:=by omega
        have k3:¬ k=3:=by omega
        obtain ⟨hv1,e⟩:validM v.s=true∧v=⟨1,v.s,0,false⟩:=by
          rcases hri with ⟨a,_⟩|⟨a,b,c,d⟩|⟨a,_⟩|⟨a,_⟩
          · omega
          · exact ⟨b,val_ext a rfl c d⟩
          · omega
          · omega
        by_cases hm:nl=true∧mkdM v.s=true
        · rw [if_pos hm]
          have h92:validM (92 :: v.s)=true:=by rw [valid_92];exact hv1
          have hq:¬ (v.s≠[]∧¬ v.s.take 1=[92]):=by
            intro hq
            have:=hm.2
            simp only [mkdM,decide_eq_true_eq] at this
            rcases this with h|h
            · exact hq.1 h
            · exact hq.2 h
          simp only [reduceCtorEq,and_false,if_false,k2,k3,h92,Bool.true_eq_false,hm.1,List.take_succ_cons,List.take_zero,not_true_eq_false,or_self,List.drop_succ_cons,List.drop_zero,hq]
          rw [←e]
        · rw [if_neg hm]
          have hs0:¬ (nl=true∧v.s=[]):=fun hq=>hm ⟨hq.1,by simp [mkdM,hq.2]⟩
          have hs1:nl=false∨¬ v.s.take 1=[92]:=by
            cases nl with
            | false=>exact .inl rfl
            | true=>exact .inr fun hq=>hm ⟨rfl,by simp [mkdM,hq]⟩
          simp only [hs0,if_false,k2,k3,hv1,Bool.true_eq_false,if_pos hs1]
          rw [←e]
end Go.Proofs.YtjajihaeoolefaaGreatDoor
namespace Go.Proofs.YtjajihaeoolefaaGreatDoor
open Nat renaming reduceAdd→zq1,reduceLeDiff→zq2,reduceEqDiff→zq3,reduceLT→zq4
open Int renaming reduceToNat→zq5
set_option linter.unusedSimpArgs false
set_option linter.unusedVariables false
attribute [local irreducible] SemK UnitK StK AlcK BslK CallK CallV Instr.box Builtin.append_ Instr.makeSlice Instr.makeMap Instr.lookup Instr.mapUpdate Instr.sliceAt convert
open Go.RowKit
end Go.Proofs.YtjajihaeoolefaaGreatDoor
