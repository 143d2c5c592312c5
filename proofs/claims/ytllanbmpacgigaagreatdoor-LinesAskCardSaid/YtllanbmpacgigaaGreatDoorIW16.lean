/- Texts of the proof, joined. -/
import Derived.Lib.ItoaLen
import Derived.Test.YtllanbmpacgigaaGreatDoorIP16
import Derived.Test.YtllanbmpacgigaaGreatDoorIW17
namespace Go.Proofs.YtllanbmpacgigaaGreatDoor
open Operand renaming tmp→Y,const→yc
open MC renaming seq→Z,reg→yr,skip→yk,cond→yd
open MO renaming call→yl,bin→yb
open Nat renaming reduceAdd→zq1,reduceLeDiff→zq2,reduceEqDiff→zq3,reduceLT→zq4
open Int renaming reduceToNat→zq5
set_option linter.unusedSimpArgs false
set_option linter.unusedVariables false
attribute [local irreducible] SemK UnitK StK AlcK BslK CallK CallV Instr.box Builtin.append_ Instr.makeSlice Instr.makeMap Instr.lookup Instr.mapUpdate Instr.sliceAt convert
open Go.RowKit
theorem dropB16 (l:Str) (k:Nat) (h:(k:Int) < l.length):l.drop k=l.getD k 0 :: l.drop (k+1):=by
 rw [List.drop_eq_getElem_cons zo];simp [List.getD,List.getElem?_eq_getElem (show k < l.length by omega)]
theorem u8ne16 {b:UInt8} {c:UInt8} {n:Int} (hn:(c.toNat:Int)=n) (h:¬ (b.toNat:Int)=n):¬ b=c:=fun e=>h (by rw [e];exact hn)
theorem u8eq16 {b:UInt8} {c:UInt8} {n:Int} (hn:(c.toNat:Int)=n) (h:(b.toNat:Int)=n):b=c:=UInt8.toNat_inj.1 zo
theorem dgB_t {b:UInt8} (h1:48≤(b.toNat:Int)) (h2:(b.toNat:Int)≤57):dgB b=true:=by simp only [dgB,decide_eq_true_eq];omega
theorem dgB_f {b:UInt8} (h:(b.toNat:Int) < 48∨57 < (b.toNat:Int)):dgB b=false:=by simp only [dgB,decide_eq_false_iff_not];omega
theorem bod_at (b:UInt8) (r:Str):bodM (b :: r)=(!(decide (b=48)) && (b :: r).all dgB):=by
 simp only [bodM]
 by_cases h:b=48<;>simp [h]
theorem form_48:formM [48]=true:=by decide
theorem form_ne {s:Str} (h:¬ s=[48]):formM s=bodM (trM s):=by simp [formM,h]
def c195:MC:=(Z (yr [qq 4 (.mv (yc (S [])))]) (Z (Z (yr [qm 5 0,qm 6 1,qq 7 (yl 157 [(Y 5),(Y 6)])]) (yd (Y 7) (Z (yr [qm 8 0,qm 9 1,qq 10 (.lenS (Y 9)),qq 11 (.slS (Y 8) (.some (Y 10)) none),qm 4 11]) .ret) yk)) (Z (yr [qm 12 0,qm 4 12]) .ret)))
theorem trim0_spec (s:Str) (w:World) (hl:s.length≤1000000000):Pu Tryz.prog 195 #[S s,S [45]] w (S (trM s)):=by
 refine En 13 c195 Tryz.func195 ?_
 have hS:=Sep.start w
 by_cases hc0:s.take 1=[45]
 ·have hlen:1≤s.length:=by
   cases s with
   | nil=>simp at hc0
   | cons _ _=>simp
  have e:trM s=s.drop 1:=by simp [trM,negM,hc0]
  rw [e]
  repeat' (first|refine aM ?_|refine G.reg fun K hK=>?_|(refine kM ?_;clear hK K)|(refine kN ?_;clear hK K;intro wd hxd;have hS:=Sep.ext ‹_› hxd)|((first|have hk:=hK|have hk:=hK2);clear hk;simp (disch:=(first|exact dis|fail)) only [push_cast,↓reduceIte,zq1,zq2,zq3,zq4,zq5,decide_eq_true hc0])|((first|refine brO_mk ?_ ?_|refine brQ_mk ?_ ?_)<;>intro hb<;>(try simp only [Bool.not_eq_true',Bool.not_eq_false'] at hb)<;>have hc:=hb<;>(try simp only [hcs,reduceCtorEq] at hc)<;>(try (exfalso;omega))<;>simp only [hb]<;>clear hb)|(refine zalc ?_;intro gb wb hS)|(refine zbsl ?_;intro gb wb hS)|((with_reducible (show SemK _ (Instr.box _ _) _ _ _ _));refine zbox ?_;intro gb wb hS)|((with_reducible (show StK _ _ (Value.pointer _) _ _ _ _ _));refine zst ?_;intro wb hS;(try simp only [sets] at hS))|(refine zcv ?_)|(refine zcp 157 (hpre0_spec s 45 _ hl) ?_;intro wb hS)|(refine G.drt mixed fun K hK wd hxd=>?_;have hS:=Sep.ext ‹_› hxd)|with_reducible refine OT_leaf ?_|(with_reducible refine OT_tail fun K2 hK2=>?_)|(refine kO ?_;clear hK2 K2;intro wd hxd;have hS:=Sep.ext ‹_› hxd)|with_reducible refine OT_br fun K2 hK2=>?_|(refine hK2 _ _ ?_ ?_<;>clear hK2 K2)|refine G.drg mixed fun K hK=>?_|(refine G.cond (by simp only [push_cast,↓reduceIte,zq1,zq2,zq3,zq4,zq5,decide_eq_true hc0];rfl) ?_ ?_<;>intro hc<;>(try simp only [hcs,reduceCtorEq] at hc)<;>(try (exfalso;omega))))
  refine rM ?_
  (first|exact Sep.xt ‹_›|exact ⟨rfl,Sep.xt ‹_›⟩)
 ·have e:trM s=s:=by simp [trM,negM,hc0]
  rw [e]
  repeat' (first|refine aM ?_|refine G.reg fun K hK=>?_|(refine kM ?_;clear hK K)|(refine kN ?_;clear hK K;intro wd hxd;have hS:=Sep.ext ‹_› hxd)|((first|have hk:=hK|have hk:=hK2);clear hk;simp (disch:=(first|exact dis|fail)) only [push_cast,↓reduceIte,zq1,zq2,zq3,zq4,zq5,decide_eq_false hc0])|((first|refine brO_mk ?_ ?_|refine brQ_mk ?_ ?_)<;>intro hb<;>(try simp only [Bool.not_eq_true',Bool.not_eq_false'] at hb)<;>have hc:=hb<;>(try simp only [hcs,reduceCtorEq] at hc)<;>(try (exfalso;omega))<;>simp only [hb]<;>clear hb)|(refine zalc ?_;intro gb wb hS)|(refine zbsl ?_;intro gb wb hS)|((with_reducible (show SemK _ (Instr.box _ _) _ _ _ _));refine zbox ?_;intro gb wb hS)|((with_reducible (show StK _ _ (Value.pointer _) _ _ _ _ _));refine zst ?_;intro wb hS;(try simp only [sets] at hS))|(refine zcv ?_)|(refine zcp 157 (hpre0_spec s 45 _ hl) ?_;intro wb hS)|(refine G.drt mixed fun K hK wd hxd=>?_;have hS:=Sep.ext ‹_› hxd)|with_reducible refine OT_leaf ?_|(with_reducible refine OT_tail fun K2 hK2=>?_)|(refine kO ?_;clear hK2 K2;intro wd hxd;have hS:=Sep.ext ‹_› hxd)|with_reducible refine OT_br fun K2 hK2=>?_|(refine hK2 _ _ ?_ ?_<;>clear hK2 K2)|refine G.drg mixed fun K hK=>?_|(refine G.cond (by simp only [push_cast,↓reduceIte,zq1,zq2,zq3,zq4,zq5,decide_eq_false hc0];rfl) ?_ ?_<;>intro hc<;>(try simp only [hcs,reduceCtorEq] at hc)<;>(try (exfalso;omega))))
  refine rM ?_
  (first|exact Sep.xt ‹_›|exact ⟨rfl,Sep.xt ‹_›⟩)
def c176:MC:=(Z (yr [qq 4 (.mv (yc (S [])))]) (Z (yr [qm 5 0,qm 6 1,qq 7 (yl 195 [(Y 5),(Y 6)]),qm 4 7]) .ret))
theorem trim_spec (s:Str) (w:World) (hl:s.length≤1000000000):Pu Tryz.prog 176 #[S s,S [45]] w (S (trM s)):=by
 refine En 8 c176 Tryz.func176 ?_
 have hS:=Sep.start w
 repeat' (first|refine G.reg fun K hK=>?_|(refine kM ?_;clear hK K)|refine sA ?_|(refine zcp 195 (trim0_spec s _ hl) ?_;intro wb hS))
 refine rM ?_
 (first|exact Sep.xt ‹_›|exact ⟨rfl,Sep.xt ‹_›⟩)
theorem tr_len (s:Str):(trM s).length≤s.length:=by unfold trM;split<;>simp
def c140l1:MC:=(Z (Z (yr [qm 15 3,qm 16 0,qq 17 (.lenS (Y 16)),qq 18 (yb .lss (Y 15) (Y 17))]) (yd (Y 18) yk (.exit 0))) (Z (.blk 1 (Z (yr [qm 21 0,qm 22 3,qq 23 (.idxS (Y 21) (Y 22)),qq 24 (yb .lss (Y 23) (yc (.int .u8 48))),qm 25 24,qmf 25 26 0,qmf 25 27 3,qf 25 28 (.idxS (Y 26) (Y 27)),qf 25 29 (yb .gtr (Y 28) (yc (.int .u8 57))),qq 30 (.pick (Y 25) (kb true) (Y 29))]) (yd (Y 30) (Z (yr [qq 2 (.mv (kb false))]) .ret) yk))) (yr [qm 19 3,qq 20 (yb .add (Y 19) (ki 1)),qm 3 20])))
def c140:MC:=(Z (yr [qq 2 (.mv (kb false))]) (Z (Z (yr [qm 4 0,qq 5 (yb .eql (Y 4) (yc (S [48])))]) (yd (Y 5) (Z (yr [qq 2 (.mv (kb true))]) .ret) yk)) (Z (yr [qm 6 0,qq 7 (yl 176 [(Y 6),(yc (S [45]))]),qm 0 7]) (Z (Z (yr [qm 8 0,qq 9 (yb .eql (Y 8) (yc (S []))),qm 10 9,qmf 10 11 0,qf 10 12 (.idxS (Y 11) (ki 0)),qf 10 13 (yb .eql (Y 12) (yc (.int .u8 48))),qq 14 (.pick (Y 10) (kb true) (Y 13))]) (yd (Y 14) (Z (yr [qq 2 (.mv (kb false))]) .ret) yk)) (Z (Z (yr [qq 3 (.mv (ki 0))]) (.blk 0 (.loop c140l1))) (Z (yr [qq 2 (.mv (kb true))]) .ret))))))
theorem form_spec (s:Str) (w:World) (hl:s.length≤1000000):Pu Tryz.prog 140 #[S s] w (.bool (formM s)):=by
 refine En 31 c140 Tryz.func140 ?_
 have hS:=Sep.start w
 by_cases h0:s=[48]
 ·subst h0
  have hz:(([48]:Str) == [48])=true:=rfl
  (have fct:=@hz;repeat' (first|refine G.reg fun K hK=>?_|(refine kM ?_;clear hK K)|refine sA ?_|(refine brO_n ?_ ?_<;>intro hb hc<;>first|exact zxf|(simp only [hb];clear hb))|(refine G.cn ?_ ?_<;>intro hc<;>try exact zxf)))<;>(try clear fct)
  refine rM ?_
  rw [form_48]
  (first|exact Sep.xt ‹_›|exact ⟨rfl,Sep.xt ‹_›⟩)
 ·have hz : (s == [48])=false:=by simpa using h0
  have hf:=form_ne h0
  have htl:=tr_len s
  generalize ht:trM s=t at hf htl
  cases t with
  | nil =>
    have hz2:(([]:Str) == [])=true:=rfl
    (have fct:=(a3 @hz @ht @hz2);repeat' (first|refine G.reg fun K hK=>?_|(refine kM ?_;clear hK K)|refine sA ?_|(refine brO_n ?_ ?_<;>intro hb hc<;>first|exact zxf|(simp only [hb];clear hb))|(refine zcp 176 (trim_spec s _ zo) ?_;intro wb hS)|(refine G.cn ?_ ?_<;>intro hc<;>try exact zxf)))<;>(try clear fct)
    refine rM ?_
    rw [hf]
    exact ⟨rfl,Sep.xt ‹_›⟩
  | cons b r =>
    have hz2:(b :: r == [])=false:=by simp
    rw [bod_at] at hf
    (have fct:=(a3 @hz @ht @hz2);repeat' (first|refine G.reg fun K hK=>?_|(refine kM ?_;clear hK K)|refine sA ?_|(refine brO_n ?_ ?_<;>intro hb hc<;>first|exact zxf|(simp only [hb];clear hb))|(refine zcp 176 (trim_spec s _ zo) ?_;intro wb hS)|(refine G.cn ?_ ?_<;>intro hc<;>try exact zxf)))<;>(try clear fct)
    ·refine rM ?_
     rw [hf,u8eq16 (c:=48) (n:=48) rfl hc]
     exact ⟨rfl,Sep.xt ‹_›⟩
    ·rw [decide_eq_false (u8ne16 (n:=48) rfl hc),Bool.not_false,Bool.true_and] at hf
     generalize b :: r=t at *
     refine G.loop (fun r w'=>∃ k:Nat,k≤t.length∧r 3=I k∧r 0=S t∧t.all dgB=(t.drop k).all dgB∧Sep w w' []) (fun r _=>t.length - toN (r 3)) ?_ ?_
     ·refine ⟨0,?_⟩
      ((repeat' apply aI)<;>first|exact dj|(simp only [push_cast,↓reduceIte,zq1,zq2,zq3,zq4,zq5]<;>omega)|skip)
      all_goals rfl
     ·clear hS
      rintro u wl ⟨k,hk,h3,q0,e,hS⟩ ih
      by_cases hlt:(k:Int) < t.length
      ·rw [dropB16 t k hlt,List.all_cons] at e
       (have fct:=(aI @h3 @q0);repeat' (first|refine G.reg fun K hK=>?_|(refine kM ?_;clear hK K)|refine sA ?_|(refine brO_n ?_ ?_<;>intro hb hc<;>first|exact zxf|(simp only [hb];clear hb))|(refine G.cn ?_ ?_<;>intro hc<;>try exact zxf)))<;>(try clear fct)
       all_goals first
        | ((have fct:=(aI @h3 @q0);refine rM ?_);rw [hf,e,dgB_f zo,Bool.false_and];exact Sep.xt ‹_›)
        | ((have fct:=(aI @h3 @q0);refine rM ?_);rw [hf,e,dgB_f zo,Bool.false_and];exact ⟨rfl,Sep.xt ‹_›⟩)
        | (rw [dgB_t zo zo,Bool.true_and] at e;(refine ih _ _ ⟨k+1,?_⟩ ?_;rotate_left;(focus ((simp only [push_cast,↓reduceIte,zq1,zq2,zq3,zq4,zq5,toN_i,h3,q0]<;>omega)));((repeat' apply aI)<;>first|exact dj|(simp only [push_cast,↓reduceIte,zq1,zq2,zq3,zq4,zq5,h3,q0]<;>omega)|skip));done)
      ·(have fct:=(aI @h3 @q0);repeat' (first|refine G.reg fun K hK=>?_|(refine kM ?_;clear hK K)|refine sA ?_|(refine brO_n ?_ ?_<;>intro hb hc<;>first|exact zxf|(simp only [hb];clear hb))|(refine G.cn ?_ ?_<;>intro hc<;>try exact zxf)))<;>(try clear fct)
       (have fct:=(aI @h3 @q0);refine rM ?_)
       rw [hf,e,List.drop_eq_nil_of_le zo]
       exact ⟨rfl,Sep.xt ‹_›⟩
def c100:MC:=(Z (yr [qq 2 (.mv (ki 0)),qq 3 (.mv (ki 0))]) (Z (Z (yr [qm 6 0,qq 7 (yl 140 [(Y 6)]),qq 8 (.un .not (Y 7))]) (yd (Y 8) (Z (yr [qq 2 (.mv (ki 0)),qq 3 (.mv (ki 17))]) .ret) yk)) (Z (yr [qm 10 0,qq 11 (yl 141 [(Y 10),(ki 10),(ki 64)]),qm 9 11,qq 12 (.ext 0 (Y 9)),qq 13 (.ext 1 (Y 9)),qm 4 12,qm 5 13]) (Z (Z (yr [qm 14 5,qq 15 (.raw (.binOp .neq 69 (Y 14) (yc .nilIface) 69) 4)]) (yd (Y 15) (Z (yr [qq 2 (.mv (ki 0)),qq 3 (.mv (ki 18))]) .ret) yk)) (Z (yr [qm 16 4,qm 2 16,qq 3 (.mv (ki 0))]) .ret)))))
theorem parse16_spec (s:Str) (w:World) (hl:s.length≤1000000) (hv:ErrV w):Pu Tryz.prog 100 #[S s] w (.tuple #[I (pnM s).1,I (pnM s).2]):=by
 refine En 17 c100 Tryz.func100 ?_
 have hS:=Sep.start w
 unfold pnM
 by_cases hf:formM s=true
 ·rw [if_neg (by rw [hf];simp)]
  by_cases hr:-9223372036854775808≤numM s∧numM s≤9223372036854775807
  ·rw [if_pos hr]
   (have fct:=@hf;repeat' (first|refine G.reg fun K hK=>?_|(refine kM ?_;clear hK K)|refine sA ?_|(refine zcp 140 (form_spec s _ hl) ?_;intro wb hS)|(refine zcp 141 (pi_ok s _ hl hf hr) ?_;intro wb hS)|(refine znn ?_)|(refine G.cn ?_ ?_<;>intro hc<;>try exact zxf)))<;>(try clear fct)
   refine rM ?_
   (first|exact Sep.xt ‹_›|exact ⟨rfl,Sep.xt ‹_›⟩)
  ·rw [if_neg hr]
   (have fct:=@hf;repeat' (first|refine G.reg fun K hK=>?_|(refine kM ?_;clear hK K)|refine sA ?_|(refine zcp 140 (form_spec s _ hl) ?_;intro wb hS)|(refine zco 141 (pi_range s _ hl hf hr (hv.ext hS.x)) ?_;rintro vb wb ⟨n,t,p,rfl,hx⟩;have hS:=Sep.ext hS hx)|(refine zns ?_)|(refine G.cn ?_ ?_<;>intro hc<;>try exact zxf)))<;>(try clear fct)
   refine rM ?_
   (first|exact Sep.xt ‹_›|exact ⟨rfl,Sep.xt ‹_›⟩)
 ·have hff:formM s=false:=by simpa using hf
  rw [if_pos hff]
  (have fct:=@hff;repeat' (first|refine G.reg fun K hK=>?_|(refine kM ?_;clear hK K)|refine sA ?_|(refine zcp 140 (form_spec s _ hl) ?_;intro wb hS)|(refine G.cn ?_ ?_<;>intro hc<;>try exact zxf)))<;>(try clear fct)
  refine rM ?_
  (first|exact Sep.xt ‹_›|exact ⟨rfl,Sep.xt ‹_›⟩)
def c53l1:MC:=(Z (Z (yr [qm 24 3,qm 25 0,qq 26 (.lenS (Y 25)),qq 27 (yb .lss (Y 24) (Y 26))]) (yd (Y 27) yk (.exit 0))) (Z (.blk 1 (Z (yr [qm 30 0,qm 31 3,qq 32 (.idxS (Y 30) (Y 31)),qq 33 (yb .lss (Y 32) (yc (.int .u8 48))),qm 34 33,qmf 34 35 0,qmf 34 36 3,qf 34 37 (.idxS (Y 35) (Y 36)),qf 34 38 (yb .gtr (Y 37) (yc (.int .u8 57))),qq 39 (.pick (Y 34) (kb true) (Y 38))]) (yd (Y 39) (Z (yr [qq 2 (.mv (kb false))]) .ret) yk))) (yr [qm 28 3,qq 29 (yb .add (Y 28) (ki 1)),qm 3 29])))
def c53:MC:=(Z (yr [qq 2 (.mv (kb false))]) (Z (Z (yr [qm 4 0,qq 5 (yb .eql (Y 4) (yc (S [48])))]) (yd (Y 5) (Z (yr [qq 2 (.mv (kb true))]) .ret) yk)) (Z (Z (yr [qm 6 0,qq 7 (.lenS (Y 6)),qq 8 (yb .gtr (Y 7) (ki 0)),qm 9 8,qmt 9 10 0,qt 9 11 (.idxS (Y 10) (ki 0)),qt 9 12 (yb .eql (Y 11) (yc (.int .u8 45))),qq 13 (.pick (Y 9) (Y 12) (kb false))]) (yd (Y 13) (yr [qm 14 0,qq 15 (.slS (Y 14) (.some (ki 1)) none),qm 0 15]) yk)) (Z (Z (yr [qm 16 0,qq 17 (.lenS (Y 16)),qq 18 (yb .eql (Y 17) (ki 0)),qm 19 18,qmf 19 20 0,qf 19 21 (.idxS (Y 20) (ki 0)),qf 19 22 (yb .eql (Y 21) (yc (.int .u8 48))),qq 23 (.pick (Y 19) (kb true) (Y 22))]) (yd (Y 23) (Z (yr [qq 2 (.mv (kb false))]) .ret) yk)) (Z (Z (yr [qq 3 (.mv (ki 0))]) (.blk 0 (.loop c53l1))) (Z (yr [qq 2 (.mv (kb true))]) .ret))))))
theorem rform_loop (t:Str) {w wl:World} {ρ:Fr} (hl:t.length≤1000000) (hS:Sep w wl []) (q3:ρ 3=I 0) (q0:ρ 0=S t) :
 G Tryz.prog Tryz.f53 40 [.c (.loop c53l1),.b 0,.c (.seq (.reg [qq 2 (.mv (kb true))]) .ret)] (fun v w'=>v=.bool (t.all dgB)∧Ext w w') ρ wl:=by
 refine G.loop (fun r w'=>∃ k:Nat,k≤t.length∧r 3=I k∧r 0=S t∧t.all dgB=(t.drop k).all dgB∧Sep w w' []) (fun r _=>t.length - toN (r 3)) ?_ ?_
 ·refine ⟨0,by omega,q3,q0,rfl,hS⟩
 ·clear hS
  rintro u wl ⟨k,hk,h3,q0,e,hS⟩ ih
  by_cases hlt:(k:Int) < t.length
  ·rw [dropB16 t k hlt,List.all_cons] at e
   (have fct:=(aI @h3 @q0);repeat' (first|refine G.reg fun K hK=>?_|(refine kM ?_;clear hK K)|refine sA ?_|(refine brO_n ?_ ?_<;>intro hb hc<;>first|exact zxf|(simp only [hb];clear hb))|(refine G.cn ?_ ?_<;>intro hc<;>try exact zxf)))<;>(try clear fct)
   all_goals first
    | ((have fct:=(aI @h3 @q0);refine rM ?_);rw [e,dgB_f zo,Bool.false_and];exact Sep.xt ‹_›)
    | ((have fct:=(aI @h3 @q0);refine rM ?_);rw [e,dgB_f zo,Bool.false_and];exact ⟨rfl,Sep.xt ‹_›⟩)
    | (rw [dgB_t zo zo,Bool.true_and] at e;(refine ih _ _ ⟨k+1,?_⟩ ?_;rotate_left;(focus ((simp only [push_cast,↓reduceIte,zq1,zq2,zq3,zq4,zq5,toN_i,h3,q0]<;>omega)));((repeat' apply aI)<;>first|exact dj|(simp only [push_cast,↓reduceIte,zq1,zq2,zq3,zq4,zq5,h3,q0]<;>omega)|skip));done)
  ·(have fct:=(aI @h3 @q0);repeat' (first|refine G.reg fun K hK=>?_|(refine kM ?_;clear hK K)|refine sA ?_|(refine brO_n ?_ ?_<;>intro hb hc<;>first|exact zxf|(simp only [hb];clear hb))|(refine G.cn ?_ ?_<;>intro hc<;>try exact zxf)))<;>(try clear fct)
   (have fct:=(aI @h3 @q0);refine rM ?_)
   rw [e,List.drop_eq_nil_of_le zo]
   exact ⟨rfl,Sep.xt ‹_›⟩
theorem rform_spec (s:Str) (w:World) (hl:s.length≤1000000):Pu Tryz.prog 53 #[S s] w (.bool (formM s)):=by
 refine En 40 c53 Tryz.func53 ?_
 have hS:=Sep.start w
 by_cases h0:s=[48]
 ·subst h0
  have hz:(([48]:Str) == [48])=true:=rfl
  (have fct:=@hz;repeat' (first|refine G.reg fun K hK=>?_|(refine kM ?_;clear hK K)|refine sA ?_|(refine brO_n ?_ ?_<;>intro hb hc<;>first|exact zxf|(simp only [hb];clear hb))|(refine G.cn ?_ ?_<;>intro hc<;>try exact zxf)))<;>(try clear fct)
  refine rM ?_
  rw [form_48]
  (first|exact Sep.xt ‹_›|exact ⟨rfl,Sep.xt ‹_›⟩)
 ·have hz : (s == [48])=false:=by simpa using h0
  have hf:=form_ne h0
  have htl:=tr_len s
  have hdrop:negM s=true→s.drop 1=trM s:=fun h=>by simp [trM,h]
  have hsame:negM s=false→trM s=s:=tr_pos
  cases s with
  | nil =>
    (have fct:=@hz;repeat' (first|refine G.reg fun K hK=>?_|(refine kM ?_;clear hK K)|refine sA ?_|(refine brO_n ?_ ?_<;>intro hb hc<;>first|exact zxf|(simp only [hb];clear hb))|(refine G.cn ?_ ?_<;>intro hc<;>try exact zxf)))<;>(try clear fct)
    refine rM ?_
    rw [hf]
    exact ⟨rfl,Sep.xt ‹_›⟩
  | cons c r =>
    simp only [List.length_cons] at hl
    by_cases hc45:(c.toNat:Int)=45
    ·have ec:=u8eq16 (c:=45) (n:=45) rfl hc45
     have e:trM (c :: r)=r:=by rw [ec];rfl
     rw [e] at hf
     cases r with
     | nil =>
       repeat' (first|refine aM ?_|refine G.reg fun K hK=>?_|(refine kM ?_;clear hK K)|(refine kN ?_;clear hK K;intro wd hxd;have hS:=Sep.ext ‹_› hxd)|((first|have hk:=hK|have hk:=hK2);clear hk;simp (disch:=(first|exact dis|fail)) only [push_cast,↓reduceIte,zq1,zq2,zq3,zq4,zq5,hz,List.drop_succ_cons,List.drop_zero])|((first|refine brO_mk ?_ ?_|refine brQ_mk ?_ ?_)<;>intro hb<;>(try simp only [Bool.not_eq_true',Bool.not_eq_false'] at hb)<;>have hc:=hb<;>(try simp only [hcs,reduceCtorEq] at hc)<;>(try (exfalso;omega))<;>simp only [hb]<;>clear hb)|(refine zalc ?_;intro gb wb hS)|(refine zbsl ?_;intro gb wb hS)|((with_reducible (show SemK _ (Instr.box _ _) _ _ _ _));refine zbox ?_;intro gb wb hS)|((with_reducible (show StK _ _ (Value.pointer _) _ _ _ _ _));refine zst ?_;intro wb hS;(try simp only [sets] at hS))|(refine zcv ?_)  | (refine G.drt mixed fun K hK wd hxd=>?_;have hS:=Sep.ext ‹_› hxd)|with_reducible refine OT_leaf ?_|(with_reducible refine OT_tail fun K2 hK2=>?_)|(refine kO ?_;clear hK2 K2;intro wd hxd;have hS:=Sep.ext ‹_› hxd)|with_reducible refine OT_br fun K2 hK2=>?_|(refine hK2 _ _ ?_ ?_<;>clear hK2 K2)|refine G.drg mixed fun K hK=>?_|(refine G.cond (by simp only [push_cast,↓reduceIte,zq1,zq2,zq3,zq4,zq5,hz,List.drop_succ_cons,List.drop_zero];rfl) ?_ ?_<;>intro hc<;>(try simp only [hcs,reduceCtorEq] at hc)<;>(try (exfalso;omega))))
       refine rM ?_
       rw [hf]
       exact ⟨rfl,Sep.xt ‹_›⟩
     | cons b r3 =>
       rw [bod_at] at hf
       simp only [List.length_cons] at hl
       repeat' (first|refine aM ?_|refine G.reg fun K hK=>?_|(refine kM ?_;clear hK K)|(refine kN ?_;clear hK K;intro wd hxd;have hS:=Sep.ext ‹_› hxd)|((first|have hk:=hK|have hk:=hK2);clear hk;simp (disch:=(first|exact dis|fail)) only [push_cast,↓reduceIte,zq1,zq2,zq3,zq4,zq5,hz,List.drop_succ_cons,List.drop_zero])|((first|refine brO_mk ?_ ?_|refine brQ_mk ?_ ?_)<;>intro hb<;>(try simp only [Bool.not_eq_true',Bool.not_eq_false'] at hb)<;>have hc:=hb<;>(try simp only [hcs,reduceCtorEq] at hc)<;>(try (exfalso;omega))<;>simp only [hb]<;>clear hb)|(refine zalc ?_;intro gb wb hS)|(refine zbsl ?_;intro gb wb hS)|((with_reducible (show SemK _ (Instr.box _ _) _ _ _ _));refine zbox ?_;intro gb wb hS)|((with_reducible (show StK _ _ (Value.pointer _) _ _ _ _ _));refine zst ?_;intro wb hS;(try simp only [sets] at hS))|(refine zcv ?_)  | (refine G.drt mixed fun K hK wd hxd=>?_;have hS:=Sep.ext ‹_› hxd)|with_reducible refine OT_leaf ?_|(with_reducible refine OT_tail fun K2 hK2=>?_)|(refine kO ?_;clear hK2 K2;intro wd hxd;have hS:=Sep.ext ‹_› hxd)|with_reducible refine OT_br fun K2 hK2=>?_|(refine hK2 _ _ ?_ ?_<;>clear hK2 K2)|refine G.drg mixed fun K hK=>?_|(refine G.cond (by simp only [push_cast,↓reduceIte,zq1,zq2,zq3,zq4,zq5,hz,List.drop_succ_cons,List.drop_zero];rfl) ?_ ?_<;>intro hc<;>(try simp only [hcs,reduceCtorEq] at hc)<;>(try (exfalso;omega))))
       ·refine rM ?_
        rw [hf,u8eq16 (c:=48) (n:=48) rfl hc]
        exact ⟨rfl,Sep.xt ‹_›⟩
       ·rw [decide_eq_false (u8ne16 (n:=48) rfl hc),Bool.not_false,Bool.true_and] at hf
        rw [hf]
        exact rform_loop (b :: r3) (by simp;omega) hS rfl rfl
    ·have hn:negM (c :: r)=false:=by
      simp only [negM,List.take_succ_cons,List.take_zero,decide_eq_false_iff_not,List.cons.injEq,and_true]
      exact u8ne16 (n:=45) rfl hc45
     rw [tr_pos hn,bod_at] at hf
     repeat' (first|refine aM ?_|refine G.reg fun K hK=>?_|(refine kM ?_;clear hK K)|(refine kN ?_;clear hK K;intro wd hxd;have hS:=Sep.ext ‹_› hxd)|((first|have hk:=hK|have hk:=hK2);clear hk;simp (disch:=(first|exact dis|fail)) only [push_cast,↓reduceIte,zq1,zq2,zq3,zq4,zq5,hz,List.drop_succ_cons,List.drop_zero])|((first|refine brO_mk ?_ ?_|refine brQ_mk ?_ ?_)<;>intro hb<;>(try simp only [Bool.not_eq_true',Bool.not_eq_false'] at hb)<;>have hc:=hb<;>(try simp only [hcs,reduceCtorEq] at hc)<;>(try (exfalso;omega))<;>simp only [hb]<;>clear hb)|(refine zalc ?_;intro gb wb hS)|(refine zbsl ?_;intro gb wb hS)|((with_reducible (show SemK _ (Instr.box _ _) _ _ _ _));refine zbox ?_;intro gb wb hS)|((with_reducible (show StK _ _ (Value.pointer _) _ _ _ _ _));refine zst ?_;intro wb hS;(try simp only [sets] at hS))|(refine zcv ?_)  | (refine G.drt mixed fun K hK wd hxd=>?_;have hS:=Sep.ext ‹_› hxd)|with_reducible refine OT_leaf ?_|(with_reducible refine OT_tail fun K2 hK2=>?_)|(refine kO ?_;clear hK2 K2;intro wd hxd;have hS:=Sep.ext ‹_› hxd)|with_reducible refine OT_br fun K2 hK2=>?_|(refine hK2 _ _ ?_ ?_<;>clear hK2 K2)|refine G.drg mixed fun K hK=>?_|(refine G.cond (by simp only [push_cast,↓reduceIte,zq1,zq2,zq3,zq4,zq5,hz,List.drop_succ_cons,List.drop_zero];rfl) ?_ ?_<;>intro hc<;>(try simp only [hcs,reduceCtorEq] at hc)<;>(try (exfalso;omega))))
     ·refine rM ?_
      rw [hf,u8eq16 (c:=48) (n:=48) rfl hc]
      exact ⟨rfl,Sep.xt ‹_›⟩
     ·rw [decide_eq_false (u8ne16 (n:=48) rfl hc),Bool.not_false,Bool.true_and] at hf
      rw [hf]
      exact rform_loop (c :: r) (by simp;omega) hS rfl rfl
theorem form_nn {s:Str} (h:formM s=true):1≤s.length:=by
 cases s with
 | nil=>simp [formM,trM,negM,bodM] at h
 | cons _ _=>simp
theorem neg_at {s:Str} (h:1≤s.length):(((s.getD 0 0).toNat:Int) == 45)=negM s:=by
 cases s with
 | nil=>simp at h
 | cons c r =>
   rw [Bool.eq_iff_iff]
   simp only [negM,List.take_succ_cons,List.take_zero,decide_eq_true_eq,List.cons.injEq,and_true,beq_iff_eq,List.getD_cons_zero]
   exact ⟨fun h=>u8eq16 (c:=45) (n:=45) rfl h,fun h=>by rw [h];rfl⟩
theorem bl_at {t u:Str} (k:Nat) (h1:(k:Int) < t.length) (h2:(k:Int) < u.length):Op.bytesLess (t.drop k) (u.drop k)=(decide (((t.getD k 0).toNat:Int) < (u.getD k 0).toNat) || (decide (((t.getD k 0).toNat:Int)=(u.getD k 0).toNat) && Op.bytesLess (t.drop (k+1)) (u.drop (k+1)))):=by
 rw [dropB16 t k h1,dropB16 u k h2,bl_cons]
 generalize t.getD k 0=a
 generalize u.getD k 0=b
 have e1:(a < b)↔(a.toNat:Int) < b.toNat:=by
  have:(a < b)↔a.toNat < b.toNat:=Iff.rfl
  rw [this];omega
 have e2:(a=b)↔(a.toNat:Int)=b.toNat:=by
  rw [←UInt8.toNat_inj];omega
 rw [Bool.eq_iff_iff]
 simp only [Bool.or_eq_true,Bool.and_eq_true,decide_eq_true_eq,beq_iff_eq,e1,e2]
theorem cmpL_eq {t u:Str} (h:(t.length:Int)=u.length):cmpL t u=Op.bytesLess t u:=by unfold cmpL;rw [if_neg zo]
theorem cmpL_ne {t u:Str} (h:¬ (t.length:Int)=u.length):cmpL t u=decide ((t.length:Int) < u.length):=by
 unfold cmpL;rw [if_pos zo,Bool.eq_iff_iff];simp only [decide_eq_true_eq];omega
def c54l1:MC:=(Z (Z (yr [qm 47 7,qm 48 0,qq 49 (.lenS (Y 48)),qq 50 (yb .lss (Y 47) (Y 49))]) (yd (Y 50) yk (.exit 0))) (Z (.blk 1 (Z (.drg [qm 53 0,qm 54 7,qq 55 (.idxS (Y 53) (Y 54)),qm 56 1,qm 57 7,qq 58 (.idxS (Y 56) (Y 57)),qq 59 (yb .neq (Y 55) (Y 58))] none) (yd (Y 59) (Z (.drg [qm 60 0,qm 61 7,qq 62 (.idxS (Y 60) (Y 61)),qm 63 1,qm 64 7,qq 65 (.idxS (Y 63) (Y 64)),qq 66 (yb .lss (Y 62) (Y 65)),qm 4 66] none) .ret) yk))) (yr [qm 51 7,qq 52 (yb .add (Y 51) (ki 1)),qm 7 52])))
def c54:MC:=(Z (yr [qq 4 (.mv (kb false))]) (Z (Z (yr [qm 8 0,qq 9 (yl 53 [(Y 8)]),qq 10 (.un .not (Y 9)),qm 11 10,qmf 11 12 1,qf 11 13 (yl 53 [(Y 12)]),qf 11 14 (.un .not (Y 13)),qq 15 (.pick (Y 11) (kb true) (Y 14))]) (yd (Y 15) (Z (yr [qq 4 (.mv (kb false))]) .ret) yk)) (Z (.drg [qm 16 0,qq 17 (.idxS (Y 16) (ki 0)),qq 18 (yb .eql (Y 17) (yc (.int .u8 45))),qm 19 1,qq 20 (.idxS (Y 19) (ki 0)),qq 21 (yb .eql (Y 20) (yc (.int .u8 45))),qm 5 18,qm 6 21] none) (Z (Z (yr [qm 22 5,qm 23 22,qmt 23 24 6,qt 23 25 (.un .not (Y 24)),qq 26 (.pick (Y 23) (Y 25) (kb false))]) (yd (Y 26) (Z (yr [qq 4 (.mv (kb true))]) .ret) yk)) (Z (Z (yr [qm 27 6,qm 28 27,qmt 28 29 5,qt 28 30 (.un .not (Y 29)),qq 31 (.pick (Y 28) (Y 30) (kb false))]) (yd (Y 31) (Z (yr [qq 4 (.mv (kb false))]) .ret) yk)) (Z (Z (yr [qm 32 5]) (yd (Y 32) (.drg [qm 33 1,qq 34 (.slS (Y 33) (.some (ki 1)) none),qm 35 0,qq 36 (.slS (Y 35) (.some (ki 1)) none),qm 0 34,qm 1 36] none) yk)) (Z (Z (yr [qm 37 0,qq 38 (.lenS (Y 37)),qm 39 1,qq 40 (.lenS (Y 39)),qq 41 (yb .neq (Y 38) (Y 40))]) (yd (Y 41) (Z (yr [qm 42 0,qq 43 (.lenS (Y 42)),qm 44 1,qq 45 (.lenS (Y 44)),qq 46 (yb .lss (Y 43) (Y 45)),qm 4 46]) .ret) yk)) (Z (Z (yr [qq 7 (.mv (ki 0))]) (.blk 0 (.loop c54l1))) (Z (yr [qq 4 (.mv (kb false))]) .ret)))))))))
theorem rless_loop (t v:Str) {w wl:World} {ρ:Fr} (hl:t.length≤1000000) (hlen:(t.length:Int)=v.length) (hS:Sep w wl []) (q7:ρ 7=I 0) (q0:ρ 0=S t) (q1:ρ 1=S v) :
 G Tryz.prog Tryz.f54 67 [.c (.loop c54l1),.b 0,.c (.seq (.reg [qq 4 (.mv (kb false))]) .ret)] (fun x w'=>x=.bool (Op.bytesLess t v)∧Ext w w') ρ wl:=by
 refine G.loop (fun r w'=>∃ k:Nat,k≤t.length∧r 7=I k∧r 0=S t∧r 1=S v∧Op.bytesLess t v=Op.bytesLess (t.drop k) (v.drop k)∧Sep w w' []) (fun r _=>t.length - toN (r 7)) ?_ ?_
 ·refine ⟨0,by omega,q7,q0,q1,rfl,hS⟩
 ·clear hS
  rintro u wl ⟨k,hk,h7,h0,h1,e,hS⟩ ih
  by_cases hlt:(k:Int) < t.length
  ·have hlt2:(k:Int) < v.length:=by omega
   rw [bl_at k hlt hlt2] at e
   (have fct:=(a3 @h7 @h0 @h1);repeat' (first|(refine gO ?_;intro K hK)|(refine kP ?_;clear hK K)|(intro wd hxd;have hS:=Sep.xx hxd)|refine sA ?_|(refine bM ?_ ?_<;>intro hb hc<;>first|exact zxf|(simp only [hb];clear hb))|(refine G.cn ?_ ?_<;>intro hc<;>try exact zxf)))<;>(try clear fct)
   ·(have fct:=(a3 @h7 @h0 @h1);refine rM ?_)
    rw [e,decide_eq_false hc,Bool.false_and,Bool.or_false]
    (first|exact Sep.xt ‹_›|exact ⟨rfl,Sep.xt ‹_›⟩)
   ·rw [decide_eq_false (show ¬ ((t.getD k 0).toNat:Int) < (v.getD k 0).toNat by omega),decide_eq_true hc,Bool.false_or,Bool.true_and] at e
    (refine ih _ _ ⟨k+1,?_⟩ ?_;rotate_left;(focus ((simp only [push_cast,↓reduceIte,zq1,zq2,zq3,zq4,zq5,toN_i,h7,h0,h1]<;>omega)));((repeat' apply aI)<;>first|exact dj|(simp only [push_cast,↓reduceIte,zq1,zq2,zq3,zq4,zq5,h7,h0,h1]<;>omega)|skip))
  ·(have fct:=(a3 @h7 @h0 @h1);repeat' (first|(refine gO ?_;intro K hK)|(refine kP ?_;clear hK K)|(intro wd hxd;have hS:=Sep.xx hxd)|refine sA ?_|(refine bM ?_ ?_<;>intro hb hc<;>first|exact zxf|(simp only [hb];clear hb))|(refine G.cn ?_ ?_<;>intro hc<;>try exact zxf)))<;>(try clear fct)
   (have fct:=(a3 @h7 @h0 @h1);refine rM ?_)
   rw [e,List.drop_eq_nil_of_le zo,List.drop_eq_nil_of_le zo]
   exact ⟨rfl,Sep.xt ‹_›⟩
theorem rless_spec (a b:Str) (w:World) (ha:a.length≤1000000) (hb:b.length≤1000000):Pu Tryz.prog 54 #[S a,S b] w (.bool (lessM a b)):=by
 refine En 67 c54 Tryz.func54 ?_
 have hS:=Sep.start w
 by_cases hf:formM a=true∧formM b=true
 ·obtain ⟨fa,fb⟩:=hf
  have na:=form_nn fa
  have nb:=form_nn fb
  have ga:=neg_at na
  have gb0:=neg_at nb
  have hl0:lessM a b=if negM a≠negM b then negM a else if negM a=true then cmpL (trM b) (trM a) else cmpL (trM a) (trM b):=by unfold lessM;rw [if_neg (not_not_intro ⟨fa,fb⟩)]
  cases h1:negM a<;>cases h2:negM b<;>rw [h1] at ga hl0<;>rw [h2] at gb0 hl0
  ·have hl1:lessM a b=cmpL a b:=by rw [hl0,tr_pos h1,tr_pos h2];simp
   clear hl0
   rw [hl1]
   (have fct:=(a4 @fa @fb @ga @gb0);repeat' (first|(refine gO ?_;intro K hK)|(refine kP ?_;clear hK K)|(intro wd hxd;have hS:=Sep.xx hxd)|refine sA ?_|(refine bM ?_ ?_<;>intro hb hc<;>first|exact zxf|(simp only [hb];clear hb))|((with_reducible (show CallK _ 53 [S a] _ _ _ _));refine zcp 53 (rform_spec a _ ha) ?_;intro wb hS)|((with_reducible (show CallK _ 53 [S b] _ _ _ _));refine zcp 53 (rform_spec b _ hb) ?_;intro wb hS)|(refine G.cn ?_ ?_<;>intro hc<;>try exact zxf)))<;>(try clear fct)
   ·refine rM ?_
    rw [cmpL_ne hc]
    (first|exact Sep.xt ‹_›|exact ⟨rfl,Sep.xt ‹_›⟩)
   ·rw [cmpL_eq hc]
    exact rless_loop a b ha hc hS rfl rfl rfl
  ·have hl1:lessM a b=false:=by rw [hl0];simp
   (have fct:=(a4 @fa @fb @ga @gb0);repeat' (first|(refine gO ?_;intro K hK)|(refine kP ?_;clear hK K)|(intro wd hxd;have hS:=Sep.xx hxd)|refine sA ?_|(refine bM ?_ ?_<;>intro hb hc<;>first|exact zxf|(simp only [hb];clear hb))|((with_reducible (show CallK _ 53 [S a] _ _ _ _));refine zcp 53 (rform_spec a _ ha) ?_;intro wb hS)|((with_reducible (show CallK _ 53 [S b] _ _ _ _));refine zcp 53 (rform_spec b _ hb) ?_;intro wb hS)|(refine G.cn ?_ ?_<;>intro hc<;>try exact zxf)))<;>(try clear fct)
   refine rM ?_
   rw [hl1]
   (first|exact Sep.xt ‹_›|exact ⟨rfl,Sep.xt ‹_›⟩)
  ·have hl1:lessM a b=true:=by rw [hl0];simp
   (have fct:=(a4 @fa @fb @ga @gb0);repeat' (first|(refine gO ?_;intro K hK)|(refine kP ?_;clear hK K)|(intro wd hxd;have hS:=Sep.xx hxd)|refine sA ?_|(refine bM ?_ ?_<;>intro hb hc<;>first|exact zxf|(simp only [hb];clear hb))|((with_reducible (show CallK _ 53 [S a] _ _ _ _));refine zcp 53 (rform_spec a _ ha) ?_;intro wb hS)|((with_reducible (show CallK _ 53 [S b] _ _ _ _));refine zcp 53 (rform_spec b _ hb) ?_;intro wb hS)|(refine G.cn ?_ ?_<;>intro hc<;>try exact zxf)))<;>(try clear fct)
   refine rM ?_
   rw [hl1]
   (first|exact Sep.xt ‹_›|exact ⟨rfl,Sep.xt ‹_›⟩)
  ·have hl1:lessM a b=cmpL (b.drop 1) (a.drop 1):=by rw [hl0];simp [trM,h1,h2]
   rw [hl1]
   (have fct:=(a4 @fa @fb @ga @gb0);repeat' (first|(refine gO ?_;intro K hK)|(refine kP ?_;clear hK K)|(intro wd hxd;have hS:=Sep.xx hxd)|refine sA ?_|(refine bM ?_ ?_<;>intro hb hc<;>first|exact zxf|(simp only [hb];clear hb))|((with_reducible (show CallK _ 53 [S a] _ _ _ _));refine zcp 53 (rform_spec a _ ha) ?_;intro wb hS)|((with_reducible (show CallK _ 53 [S b] _ _ _ _));refine zcp 53 (rform_spec b _ hb) ?_;intro wb hS)|(refine G.cn ?_ ?_<;>intro hc<;>try exact zxf)))<;>(try clear fct)
   ·refine rM ?_
    rw [cmpL_ne hc]
    (first|exact Sep.xt ‹_›|exact ⟨rfl,Sep.xt ‹_›⟩)
   ·rw [cmpL_eq hc]
    exact rless_loop (b.drop 1) (a.drop 1) (by simp;omega) hc hS rfl rfl rfl
 ·have hl1:lessM a b=false:=by unfold lessM;rw [if_pos hf]
  rw [hl1]
  repeat' (first|(refine gO ?_;intro K hK)|(refine kP ?_;clear hK K)|(intro wd hxd;have hS:=Sep.xx hxd)|refine sA ?_|(refine bM ?_ ?_<;>intro hb hc<;>first|exact zxf|(simp only [hb];clear hb))|((with_reducible (show CallK _ 53 [S a] _ _ _ _));refine zcp 53 (rform_spec a _ ha) ?_;intro wb hS)|((with_reducible (show CallK _ 53 [S b] _ _ _ _));refine zcp 53 (rform_spec b _ hb) ?_;intro wb hS)|(refine G.cn ?_ ?_<;>intro hc<;>try exact zxf))
  all_goals first
   | (exfalso;exact hf ⟨by assumption,by assumption⟩)
   | (refine rM ?_;exact Sep.xt ‹_›)
def pvM (s:Str) (k:Nat):Int:=if negM s=true then -(decV ((s.take k).drop 1):Int) else decV (s.take k)
theorem decV_le (p q:Str):decV p≤decV (p++q):=by
 have:decV (p++q)=decV p * 10 ^ q.length+decV q:=by
  show (p++q).foldl _ 0=_
  rw [List.foldl_append]
  exact decV_acc q (decV p)
 have h1:0 < 10 ^ q.length:=Nat.pos_of_ne_zero ze
 have h2:=Nat.mul_le_mul_left (decV p) h1
 omega
theorem pv_le (s:Str) (k:Nat):(negM s=true→numM s≤pvM s k∧pvM s k≤0)∧(negM s=false→0≤pvM s k∧pvM s k≤numM s):=by
 constructor
 ·intro h
  unfold pvM numM trM
  rw [if_pos h,if_pos h,if_pos h]
  have e : s.drop 1=(s.take k).drop 1++s.drop (max k 1):=by
   by_cases hk:1≤k
   ·rw [show max k 1=k by omega]
    conv=>lhs;rw [←List.take_append_drop k s]
    by_cases hs:s=[]
    ·subst hs;simp
    ·have:1≤(s.take k).length:=by
      rw [List.length_take]
      have:s.length≠0:=fun e=>hs (List.eq_nil_of_length_eq_zero e)
      omega
     rw [List.drop_append_of_le_length this]
   ·have:k=0:=by omega
    subst this;simp
  have:=decV_le ((s.take k).drop 1) (s.drop (max k 1))
  rw [←e] at this
  omega
 ·intro h
  unfold pvM numM
  rw [if_neg (by rw [h];simp),if_neg (by rw [h];simp),tr_pos h]
  have:=decV_le (s.take k) (s.drop k)
  rw [List.take_append_drop] at this
  omega
theorem form_dig {s:Str} (h:formM s=true) (k:Nat) (hk:(k:Int) < s.length):(k=0∧negM s=true∧s.getD k 0=45)∨(dgB (s.getD k 0)=true∧(negM s=true→1≤k)):=by
 have hc:=(form_can h).1
 have ha:=can_all hc
 cases hn:negM s
 ·rw [tr_pos hn] at ha
  right
  refine ⟨?_,fun h=>by simp at h⟩
  have hm:s.getD k 0∈s:=by
   rw [List.getD_eq_getElem?_getD,List.getElem?_eq_getElem (show k < s.length by omega)]
   simp
  exact List.all_eq_true.1 ha _ hm
 ·have hs:=tr_neg hn
  by_cases h0:k=0
  ·left;subst h0;exact ⟨rfl,rfl,by rw [hs];rfl⟩
  ·right
   refine ⟨?_,fun _=>by omega⟩
   obtain ⟨j,rfl⟩:∃ j,k=j+1:=⟨k - 1,by omega⟩
   rw [hs] at hk ⊢
   simp only [List.length_cons] at hk
   have hm:(trM s).getD j 0∈trM s:=by
    rw [List.getD_eq_getElem?_getD,List.getElem?_eq_getElem (show j < (trM s).length by omega)]
    simp
   have:=List.all_eq_true.1 ha _ hm
   simpa using this
theorem takeB16 (l:Str) (k:Nat) (h:(k:Int) < l.length):l.take (k+1)=l.take k++[l.getD k 0]:=by
 rw [List.take_succ_eq_append_getElem zo]
 simp [List.getD,List.getElem?_eq_getElem (show k < l.length by omega)]
theorem pv_step {s:Str} {k:Nat} (hk:(k:Int) < s.length) (hn:negM s=true→1≤k):pvM s (k+1)=if negM s=true then pvM s k * 10 - ((s.getD k 0).toNat - 48:Nat) else pvM s k * 10+((s.getD k 0).toNat - 48:Nat):=by
 unfold pvM
 rw [takeB16 s k hk]
 cases h:negM s
 ·simp only [Bool.false_eq_true,if_false]
  rw [decV_app];omega
 ·simp only [if_true]
  have:1≤(s.take k).length:=by rw [List.length_take];have:=hn h;omega
  rw [List.drop_append_of_le_length this,decV_app];omega
theorem pv_end (s:Str) (k:Nat) (h:s.length≤k):pvM s k=numM s:=by
 unfold pvM numM trM
 rw [List.take_of_length_le h]
 cases negM s<;>simp
theorem form_min:formM [45,57,50,50,51,51,55,50,48,51,54,56,53,52,55,55,53,56,48,56]=true∧numM [45,57,50,50,51,51,55,50,48,51,54,56,53,52,55,55,53,56,48,56]=-9223372036854775808:=by decide +kernel
theorem form_max:formM [57,50,50,51,51,55,50,48,51,54,56,53,52,55,55,53,56,48,55]=true∧numM [57,50,50,51,51,55,50,48,51,54,56,53,52,55,55,53,56,48,55]=9223372036854775807:=by decide +kernel
def c33l1:MC:=(Z (Z (yr [qm 19 6,qm 20 0,qq 21 (.lenS (Y 20)),qq 22 (yb .lss (Y 19) (Y 21))]) (yd (Y 22) yk (.exit 0))) (Z (.blk 1 (Z (Z (yr [qm 25 0,qm 26 6,qq 27 (.idxS (Y 25) (Y 26)),qq 28 (yb .eql (Y 27) (yc (.int .u8 45)))]) (yd (Y 28) (.exit 1) yk)) (Z (yr [qm 29 5]) (yd (Y 29) (yr [qm 30 4,qq 31 (yb .mul (Y 30) (ki 10)),qm 32 0,qm 33 6,qq 34 (.idxS (Y 32) (Y 33)),qq 35 (yb .sub (Y 34) (yc (.int .u8 48))),qq 36 (.cvi .i64 (Y 35)),qq 37 (yb .sub (Y 31) (Y 36)),qm 4 37]) (yr [qm 38 4,qq 39 (yb .mul (Y 38) (ki 10)),qm 40 0,qm 41 6,qq 42 (.idxS (Y 40) (Y 41)),qq 43 (yb .sub (Y 42) (yc (.int .u8 48))),qq 44 (.cvi .i64 (Y 43)),qq 45 (yb .add (Y 39) (Y 44)),qm 4 45]))))) (yr [qm 23 6,qq 24 (yb .add (Y 23) (ki 1)),qm 6 24])))
def c33:MC:=(Z (yr [qq 2 (.mv (ki 0)),qq 3 (.mv (ki 0))]) (Z (Z (yr [qm 7 0,qq 8 (yl 53 [(Y 7)]),qq 9 (.un .not (Y 8))]) (yd (Y 9) (Z (yr [qq 2 (.mv (ki 0)),qq 3 (.mv (ki 17))]) .ret) yk)) (Z (Z (yr [qm 10 0,qq 11 (yl 54 [(Y 10),(yc (S [45,57,50,50,51,51,55,50,48,51,54,56,53,52,55,55,53,56,48,56]))]),qm 12 11,qmf 12 13 0,qf 12 14 (yl 54 [(yc (S [57,50,50,51,51,55,50,48,51,54,56,53,52,55,55,53,56,48,55])),(Y 13)]),qq 15 (.pick (Y 12) (kb true) (Y 14))]) (yd (Y 15) (Z (yr [qq 2 (.mv (ki 0)),qq 3 (.mv (ki 18))]) .ret) yk)) (Z (yr [qq 4 (.mv (ki 0))]) (Z (yr [qm 16 0,qq 17 (.idxS (Y 16) (ki 0)),qq 18 (yb .eql (Y 17) (yc (.int .u8 45))),qm 5 18]) (Z (Z (yr [qq 6 (.mv (ki 0))]) (.blk 0 (.loop c33l1))) (Z (yr [qm 46 4,qm 2 46,qq 3 (.mv (ki 0))]) .ret)))))))
theorem rparse16_spec (s:Str) (w:World) (hl:s.length≤1000000):Pu Tryz.prog 33 #[S s] w (.tuple #[I (pnM s).1,I (pnM s).2]):=by
 refine En 47 c33 Tryz.func33 ?_
 have hS:=Sep.start w
 unfold pnM
 by_cases hf:formM s=true
 ·rw [if_neg (by rw [hf];simp)]
  have l1:=less_num hf form_min.1
  have l2:=less_num form_max.1 hf
  rw [form_min.2] at l1
  rw [form_max.2] at l2
  have hnn:=form_nn hf
  have hna:=neg_at hnn
  by_cases hr:-9223372036854775808≤numM s∧numM s≤9223372036854775807
  ·rw [if_pos hr]
   rw [decide_eq_false zo] at l1 l2
   have hpe:=pv_end s
   (have fct:=(a4 @hf @l1 @l2 @hna);repeat' (first|refine G.reg fun K hK=>?_|(refine kM ?_;clear hK K)|refine sA ?_|(refine brO_n ?_ ?_<;>intro hb hc<;>first|exact zxf|(simp only [hb];clear hb))|(refine zcp 53 (rform_spec s _ hl) ?_;intro wb hS)|((with_reducible (show CallK _ 54 [S s,_] _ _ _ _));refine zcp 54 (rless_spec s [45,57,50,50,51,51,55,50,48,51,54,56,53,52,55,55,53,56,48,56] _ hl ze) ?_;intro wb hS)|((with_reducible (show CallK _ 54 [_,S s] _ _ _ _));refine zcp 54 (rless_spec [57,50,50,51,51,55,50,48,51,54,56,53,52,55,55,53,56,48,55] s _ ze hl) ?_;intro wb hS)|(refine G.cn ?_ ?_<;>intro hc<;>try exact zxf)))<;>(try clear fct)
   refine G.loop (fun r w'=>∃ k:Nat,k≤s.length∧r 6=I k∧r 5=.bool (negM s)∧r 4=I (pvM s k)∧r 0=S s∧Sep w w' []) (fun r _=>s.length - toN (r 6)) ?_ ?_
   ·refine ⟨0,?_⟩
    ((repeat' apply aI)<;>first|exact dj|(simp only [push_cast,↓reduceIte,zq1,zq2,zq3,zq4,zq5,hna]<;>omega)|skip)
    all_goals (simp only [push_cast,↓reduceIte,zq1,zq2,zq3,zq4,zq5];unfold pvM;cases negM s<;>rfl)
   ·clear hS
    rintro u wl ⟨k,hk,h6,h5,h4,h0,hS⟩ ih
    have hb1:=pv_le s k
    have hb2:=pv_le s (k+1)
    by_cases hlt:(k:Int) < s.length
    ·rcases form_dig hf k hlt with ⟨rfl,hn,h45⟩|⟨hd,hn1⟩
     ·have h45':((s.getD 0 0).toNat:Int)=45:=by rw [h45];rfl
      have hpv:pvM s 1=pvM s 0:=by
       unfold pvM
       rw [if_pos hn,if_pos hn]
       cases s<;>simp
      (have fct:=(a5 @h6 @h5 @h4 @h0 @hn);repeat' (first|refine G.reg fun K hK=>?_|(refine kM ?_;clear hK K)|refine sA ?_|(refine brO_n ?_ ?_<;>intro hb hc<;>first|exact zxf|(simp only [hb];clear hb))|(refine G.cn ?_ ?_<;>intro hc<;>try exact zxf)))<;>(try clear fct)
      (refine ih _ _ ⟨1,?_⟩ ?_;rotate_left;(focus ((simp only [push_cast,↓reduceIte,zq1,zq2,zq3,zq4,zq5,toN_i,h6,h5,h4,h0,hn,hpv]<;>omega)));((repeat' apply aI)<;>first|exact dj|(simp only [push_cast,↓reduceIte,zq1,zq2,zq3,zq4,zq5,h6,h5,h4,h0,hn,hpv]<;>omega)|skip))
     ·have hps:=pv_step hlt hn1
      have hdd:48≤(s.getD k 0).toNat∧(s.getD k 0).toNat≤57:=by simpa [dgB] using hd
      cases hn:negM s
      ·rw [hn] at hps hb1 hb2
       simp only [Bool.false_eq_true,if_false] at hps
       have q1:=hb1.2 rfl
       have q2:=hb2.2 rfl
       have hps2:pvM s (k+1)=pvM s k * 10+(((s.getD k 0).toNat:Int) - 48):=by omega
       (have fct:=(a5 @h6 @h5 @h4 @h0 @hn);repeat' (first|refine G.reg fun K hK=>?_|(refine kM ?_;clear hK K)|refine sA ?_|(refine brO_n ?_ ?_<;>intro hb hc<;>first|exact zxf|(simp only [hb];clear hb))|(refine G.cn ?_ ?_<;>intro hc<;>try exact zxf)))<;>(try clear fct)
       (refine ih _ _ ⟨k+1,?_⟩ ?_;rotate_left;(focus ((simp only [push_cast,↓reduceIte,zq1,zq2,zq3,zq4,zq5,toN_i,h6,h5,h4,h0,hn,hps2]<;>omega)));((repeat' apply aI)<;>first|exact dj|(simp only [push_cast,↓reduceIte,zq1,zq2,zq3,zq4,zq5,h6,h5,h4,h0,hn,hps2]<;>omega)|skip))
      ·rw [hn] at hps hb1 hb2
       simp only [if_true] at hps
       have q1:=hb1.1 rfl
       have q2:=hb2.1 rfl
       have hps2:pvM s (k+1)=pvM s k * 10 - (((s.getD k 0).toNat:Int) - 48):=by omega
       (have fct:=(a5 @h6 @h5 @h4 @h0 @hn);repeat' (first|refine G.reg fun K hK=>?_|(refine kM ?_;clear hK K)|refine sA ?_|(refine brO_n ?_ ?_<;>intro hb hc<;>first|exact zxf|(simp only [hb];clear hb))|(refine G.cn ?_ ?_<;>intro hc<;>try exact zxf)))<;>(try clear fct)
       (refine ih _ _ ⟨k+1,?_⟩ ?_;rotate_left;(focus ((simp only [push_cast,↓reduceIte,zq1,zq2,zq3,zq4,zq5,toN_i,h6,h5,h4,h0,hn,hps2]<;>omega)));((repeat' apply aI)<;>first|exact dj|(simp only [push_cast,↓reduceIte,zq1,zq2,zq3,zq4,zq5,h6,h5,h4,h0,hn,hps2]<;>omega)|skip))
    ·(have fct:=(a4 @h6 @h5 @h4 @h0);repeat' (first|refine G.reg fun K hK=>?_|(refine kM ?_;clear hK K)|refine sA ?_|(refine brO_n ?_ ?_<;>intro hb hc<;>first|exact zxf|(simp only [hb];clear hb))|(refine G.cn ?_ ?_<;>intro hc<;>try exact zxf)))<;>(try clear fct)
     (have fct:=(a4 @h6 @h5 @h4 @h0);refine rM ?_)
     rw [hpe k zo]
     (first|exact Sep.xt ‹_›|exact ⟨rfl,Sep.xt ‹_›⟩)
  ·rw [if_neg hr]
   by_cases hlo:numM s < -9223372036854775808
   ·rw [decide_eq_true hlo] at l1
    (have fct:=(aI @hf @l1);repeat' (first|refine G.reg fun K hK=>?_|(refine kM ?_;clear hK K)|refine sA ?_|(refine brO_n ?_ ?_<;>intro hb hc<;>first|exact zxf|(simp only [hb];clear hb))|(refine zcp 53 (rform_spec s _ hl) ?_;intro wb hS)|((with_reducible (show CallK _ 54 [S s,_] _ _ _ _));refine zcp 54 (rless_spec s [45,57,50,50,51,51,55,50,48,51,54,56,53,52,55,55,53,56,48,56] _ hl ze) ?_;intro wb hS)|((with_reducible (show CallK _ 54 [_,S s] _ _ _ _));refine zcp 54 (rless_spec [57,50,50,51,51,55,50,48,51,54,56,53,52,55,55,53,56,48,55] s _ ze hl) ?_;intro wb hS)|(refine G.cn ?_ ?_<;>intro hc<;>try exact zxf)))<;>(try clear fct)
    refine rM ?_
    (first|exact Sep.xt ‹_›|exact ⟨rfl,Sep.xt ‹_›⟩)
   ·rw [decide_eq_false hlo] at l1
    rw [decide_eq_true zo] at l2
    (have fct:=(a3 @hf @l1 @l2);repeat' (first|refine G.reg fun K hK=>?_|(refine kM ?_;clear hK K)|refine sA ?_|(refine brO_n ?_ ?_<;>intro hb hc<;>first|exact zxf|(simp only [hb];clear hb))|(refine zcp 53 (rform_spec s _ hl) ?_;intro wb hS)|((with_reducible (show CallK _ 54 [S s,_] _ _ _ _));refine zcp 54 (rless_spec s [45,57,50,50,51,51,55,50,48,51,54,56,53,52,55,55,53,56,48,56] _ hl ze) ?_;intro wb hS)|((with_reducible (show CallK _ 54 [_,S s] _ _ _ _));refine zcp 54 (rless_spec [57,50,50,51,51,55,50,48,51,54,56,53,52,55,55,53,56,48,55] s _ ze hl) ?_;intro wb hS)|(refine G.cn ?_ ?_<;>intro hc<;>try exact zxf)))<;>(try clear fct)
    refine rM ?_
    (first|exact Sep.xt ‹_›|exact ⟨rfl,Sep.xt ‹_›⟩)
 ·have hff:formM s=false:=by simpa using hf
  rw [if_pos hff]
  (have fct:=@hff;repeat' (first|refine G.reg fun K hK=>?_|(refine kM ?_;clear hK K)|refine sA ?_|(refine brO_n ?_ ?_<;>intro hb hc<;>first|exact zxf|(simp only [hb];clear hb))|(refine zcp 53 (rform_spec s _ hl) ?_;intro wb hS)|((with_reducible (show CallK _ 54 [S s,_] _ _ _ _));refine zcp 54 (rless_spec s [45,57,50,50,51,51,55,50,48,51,54,56,53,52,55,55,53,56,48,56] _ hl ze) ?_;intro wb hS)|((with_reducible (show CallK _ 54 [_,S s] _ _ _ _));refine zcp 54 (rless_spec [57,50,50,51,51,55,50,48,51,54,56,53,52,55,55,53,56,48,55] s _ ze hl) ?_;intro wb hS)|(refine G.cn ?_ ?_<;>intro hc<;>try exact zxf)))<;>(try clear fct)
  refine rM ?_
  (first|exact Sep.xt ‹_›|exact ⟨rfl,Sep.xt ‹_›⟩)
theorem cpre_spec (s:Str) (c:UInt8) (w:World) (hl:s.length≤1000000000):Pu Tryz.prog 128 #[S s,S [c]] w (.tuple #[S (if s.take 1=[c] then s.drop 1 else s),.bool (decide (s.take 1=[c]))]):=by
 have h:=cutp_spec s [c] w hl ze
 have e:(s.take [c].length == [c])=decide (s.take 1=[c]):=by rw [Bool.eq_iff_iff];simp
 rw [e] at h;simpa using h
def deM (s:Str) (k:Int) (nl:Bool):Val×Int :=
 if ¬ (1≤k∧k≤3) then (⟨0,[],0,false⟩,22) else if nl=true∧s=[] then (⟨0,[],0,false⟩,0)
 else if k=2 then (if (pnM s).2≠0 then (⟨0,[],0,false⟩,(pnM s).2) else (⟨2,[],(pnM s).1,false⟩,0))
 else if k=3 then (if s=[116,114,117,101] then (⟨3,[],0,true⟩,0) else if s=[102,97,108,115,101] then (⟨3,[],0,false⟩,0) else (⟨0,[],0,false⟩,19))
 else if validM s=false then (⟨0,[],0,false⟩,14) else if nl=false∨¬ s.take 1=[92] then (⟨1,s,0,false⟩,0)
 else if s.drop 1≠[]∧¬ (s.drop 1).take 1=[92] then (⟨0,[],0,false⟩,23) else (⟨1,s.drop 1,0,false⟩,0)
theorem de_fin {v:Val} {n:Int} {p:Val×Int} (h:p=(v,n)):Value.tuple #[.agg #[I v.kind,S v.s,I v.n,.bool v.b],.int .i64 n]=.tuple #[.agg #[I p.1.kind,S p.1.s,I p.1.n,.bool p.1.b],I p.2]:=by rw [h]
def c182:MC:=(Z (yr [qq 3 (.raw (.box 121 (Y 1)) 0),qq 4 (.alc 129 [(.int .i64 0),(S []),(.int .i64 0),(.bool false)]),qq 5 (.mv (ki 0))]) (Z (Z (yr [qq 10 (.fad 1 (Y 3)),qq 11 (.ld none (Y 10)),qq 12 (yl 113 [(Y 11)]),qq 13 (.un .not (Y 12))]) (yd (Y 13) (Z (yr [qq 14 (.bld [(.int .i64 0),(S []),(.int .i64 0),(.bool false)] []),qn (.st 4 (Y 4) (Y 14)),qq 5 (.mv (ki 22))]) .ret) yk)) (Z (Z (yr [qq 15 (.fad 2 (Y 3)),qq 16 (.ld none (Y 15)),qm 17 16,qmt 17 18 0,qt 17 19 (yb .eql (Y 18) (yc (S []))),qq 20 (.pick (Y 17) (Y 19) (kb false))]) (yd (Y 20) (Z (yr [qq 21 (.bld [(.int .i64 0),(S []),(.int .i64 0),(.bool false)] []),qn (.st 4 (Y 4) (Y 21)),qq 5 (.mv (ki 0))]) .ret) yk)) (Z (Z (yr [qq 22 (.fad 1 (Y 3)),qq 23 (.ld none (Y 22))]) (.blk 0 (Z (yr [qq 25 (yb .eql (Y 23) (ki 2)),qm 24 25]) (yd (Y 24) (Z (yr [qm 27 0,qq 28 (yl 100 [(Y 27)]),qm 26 28,qq 29 (.ext 0 (Y 26)),qq 30 (.ext 1 (Y 26)),qm 6 29,qm 7 30]) (Z (Z (yr [qm 31 7,qq 32 (yb .neq (Y 31) (ki 0))]) (yd (Y 32) (Z (yr [qq 33 (.bld [(.int .i64 0),(S []),(.int .i64 0),(.bool false)] []),qm 34 7,qn (.st 4 (Y 4) (Y 33)),qm 5 34]) .ret) yk)) (Z (yr [qm 35 6,qq 36 (yl 154 [(Y 35)]),qn (.st 4 (Y 4) (Y 36)),qq 5 (.mv (ki 0))]) .ret))) (Z (yr [qq 38 (yb .eql (Y 23) (ki 3)),qm 37 38]) (yd (Y 37) (Z (Z (yr [qm 39 0,qq 40 (yb .neq (Y 39) (yc (S [116,114,117,101]))),qm 41 40,qmt 41 42 0,qt 41 43 (yb .neq (Y 42) (yc (S [102,97,108,115,101]))),qq 44 (.pick (Y 41) (Y 43) (kb false))]) (yd (Y 44) (Z (yr [qq 45 (.bld [(.int .i64 0),(S []),(.int .i64 0),(.bool false)] []),qn (.st 4 (Y 4) (Y 45)),qq 5 (.mv (ki 19))]) .ret) yk)) (Z (yr [qm 46 0,qq 47 (yb .eql (Y 46) (yc (S [116,114,117,101]))),qq 48 (yl 155 [(Y 47)]),qn (.st 4 (Y 4) (Y 48)),qq 5 (.mv (ki 0))]) .ret)) yk)))))) (Z (Z (yr [qm 49 0,qq 50 (yl 104 [(Y 49)]),qq 51 (.un .not (Y 50))]) (yd (Y 51) (Z (yr [qq 52 (.bld [(.int .i64 0),(S []),(.int .i64 0),(.bool false)] []),qn (.st 4 (Y 4) (Y 52)),qq 5 (.mv (ki 14))]) .ret) yk)) (Z (yr [qm 54 0,qq 55 (yl 128 [(Y 54),(yc (S [92]))]),qm 53 55,qq 56 (.ext 0 (Y 53)),qq 57 (.ext 1 (Y 53)),qm 8 56,qm 9 57]) (Z (Z (yr [qq 58 (.fad 2 (Y 3)),qq 59 (.ld none (Y 58)),qq 60 (.un .not (Y 59)),qm 61 60,qmf 61 62 9,qf 61 63 (.un .not (Y 62)),qq 64 (.pick (Y 61) (kb true) (Y 63))]) (yd (Y 64) (Z (yr [qm 65 0,qq 66 (yl 153 [(Y 65)]),qn (.st 4 (Y 4) (Y 66)),qq 5 (.mv (ki 0))]) .ret) yk)) (Z (Z (yr [qm 67 8,qq 68 (yb .neq (Y 67) (yc (S []))),qm 69 68,qmt 69 70 8,qt 69 71 (yl 116 [(Y 70),(yc (S [92]))]),qt 69 72 (.un .not (Y 71)),qq 73 (.pick (Y 69) (Y 72) (kb false))]) (yd (Y 73) (Z (yr [qq 74 (.bld [(.int .i64 0),(S []),(.int .i64 0),(.bool false)] []),qn (.st 4 (Y 4) (Y 74)),qq 5 (.mv (ki 23))]) .ret) yk)) (Z (yr [qm 75 8,qq 76 (yl 153 [(Y 75)]),qn (.st 4 (Y 4) (Y 76)),qq 5 (.mv (ki 0))]) .ret)))))))))
theorem dec_spec (s:Str) (nm:Str) (k:Int) (nl:Bool) (w:World) (hl:s.length≤1000000) (hv:ErrV w):Pu Tryz.prog 182 #[S s,.agg #[S nm,I k,.bool nl]] w (.tuple #[(.agg #[I (deM s k nl).1.kind,S (deM s k nl).1.s,I (deM s k nl).1.n,.bool (deM s k nl).1.b]),I (deM s k nl).2]):=by
 refine En 77 c182 Tryz.func182 ?_
 have hS:=Sep.start w
 by_cases hk:1≤k∧k≤3
 ·repeat' (first|refine aM ?_|refine G.reg fun K hK=>?_|(refine kM ?_;clear hK K)|(refine kN ?_;clear hK K;intro wd hxd;have hS:=Sep.ext ‹_› hxd)|((first|have hk:=hK|have hk:=hK2);clear hk;simp (disch:=(first|exact dis|fail)) only [push_cast,↓reduceIte,zq1,zq2,zq3,zq4,zq5,decide_eq_true hk])|((first|refine brO_mk ?_ ?_|refine brQ_mk ?_ ?_)<;>intro hb<;>(try simp only [Bool.not_eq_true',Bool.not_eq_false'] at hb)<;>have hc:=hb<;>(try simp only [hcs,reduceCtorEq] at hc)<;>(try (exfalso;omega))<;>simp only [hb]<;>clear hb)|(refine zalc ?_;intro gb wb hS)|(refine zbsl ?_;intro gb wb hS)|((with_reducible (show SemK _ (Instr.box _ _) _ _ _ _));refine zbox ?_;intro gb wb hS)|((with_reducible (show StK _ _ (Value.pointer _) _ _ _ _ _));refine zst ?_;intro wb hS;(try simp only [sets] at hS))|(refine zcv ?_)|(refine zcp 113 (known_spec k _) ?_;intro wb hS)|(refine zcp 100 (parse16_spec s _ hl (hv.ext hS.x)) ?_;intro wb hS)|(refine zcp 154 (int17_spec _ _) ?_;intro wb hS)|(refine zcp 155 (bool17_spec _ _) ?_;intro wb hS)|(refine zcp 153 (text17_spec _ _) ?_;intro wb hS)|(refine zcp 104 (valid_spec _ _ zo) ?_;intro wb hS)|(refine zcp 128 (cpre_spec s 92 _ zo) ?_;intro wb hS)|(refine zcp 116 (hpre_spec _ 92 _ (by (try simp only [apply_ite List.length]);(try split)<;>simp<;>omega)) ?_;intro wb hS)|(refine G.drt mixed fun K hK wd hxd=>?_;have hS:=Sep.ext ‹_› hxd)|with_reducible refine OT_leaf ?_|(with_reducible refine OT_tail fun K2 hK2=>?_)|(refine kO ?_;clear hK2 K2;intro wd hxd;have hS:=Sep.ext ‹_› hxd)|with_reducible refine OT_br fun K2 hK2=>?_|(refine hK2 _ _ ?_ ?_<;>clear hK2 K2)|refine G.drg mixed fun K hK=>?_|(refine G.cond (by simp only [push_cast,↓reduceIte,zq1,zq2,zq3,zq4,zq5,decide_eq_true hk];rfl) ?_ ?_<;>intro hc<;>(try simp only [hcs,reduceCtorEq] at hc)<;>(try (exfalso;omega))))
  all_goals
   refine rM ?_
   refine ⟨?_,Sep.xt ‹_›⟩
   clear hS
   first
    | refine de_fin (v:=⟨0,[],0,false⟩) ?_
    | refine de_fin (v:=⟨2,[],(pnM s).1,false⟩) ?_
    | refine de_fin (v:=⟨3,[],0,s == [116,114,117,101]⟩) ?_
    | refine de_fin (v:=⟨1,s,0,false⟩) ?_
    | refine de_fin (v:=⟨1,if s.take 1=[92] then s.drop 1 else s,0,false⟩) ?_
   unfold deM
   first|(simp_all;done)|grind
 ·repeat' (first|refine aM ?_|refine G.reg fun K hK=>?_|(refine kM ?_;clear hK K)|(refine kN ?_;clear hK K;intro wd hxd;have hS:=Sep.ext ‹_› hxd)|((first|have hk:=hK|have hk:=hK2);clear hk;simp (disch:=(first|exact dis|fail)) only [push_cast,↓reduceIte,zq1,zq2,zq3,zq4,zq5,decide_eq_false hk])|((first|refine brO_mk ?_ ?_|refine brQ_mk ?_ ?_)<;>intro hb<;>(try simp only [Bool.not_eq_true',Bool.not_eq_false'] at hb)<;>have hc:=hb<;>(try simp only [hcs,reduceCtorEq] at hc)<;>(try (exfalso;omega))<;>simp only [hb]<;>clear hb)|(refine zalc ?_;intro gb wb hS)|(refine zbsl ?_;intro gb wb hS)|((with_reducible (show SemK _ (Instr.box _ _) _ _ _ _));refine zbox ?_;intro gb wb hS)|((with_reducible (show StK _ _ (Value.pointer _) _ _ _ _ _));refine zst ?_;intro wb hS;(try simp only [sets] at hS))|(refine zcv ?_)|(refine zcp 113 (known_spec k _) ?_;intro wb hS)|(refine G.drt mixed fun K hK wd hxd=>?_;have hS:=Sep.ext ‹_› hxd)|with_reducible refine OT_leaf ?_|(with_reducible refine OT_tail fun K2 hK2=>?_)|(refine kO ?_;clear hK2 K2;intro wd hxd;have hS:=Sep.ext ‹_› hxd)|with_reducible refine OT_br fun K2 hK2=>?_|(refine hK2 _ _ ?_ ?_<;>clear hK2 K2)|refine G.drg mixed fun K hK=>?_|(refine G.cond (by simp only [push_cast,↓reduceIte,zq1,zq2,zq3,zq4,zq5,decide_eq_false hk];rfl) ?_ ?_<;>intro hc<;>(try simp only [hcs,reduceCtorEq] at hc)<;>(try (exfalso;omega))))
  refine rM ?_
  refine ⟨de_fin (v:=⟨0,[],0,false⟩) ?_,Sep.xt ‹_›⟩
  unfold deM;rw [if_pos hk]
theorem valid_92 (s:Str):validM (92 :: s)=validM s:=(valid_app [92] s (by decide +kernel)).1
theorem enc_dec (s : Str) (k:Int) (nl:Bool) (h:(deM s k nl).2=0):rightM (deM s k nl).1=true∧encM (deM s k nl).1 k nl=(s,0):=by
 unfold deM at h ⊢
 by_cases hk:¬ (1≤k∧k≤3)
 ·rw [if_pos hk] at h;simp at h
 rw [if_neg hk] at h ⊢
 simp only [Decidable.not_not] at hk
 have en:∀ v:Val,rightM v=true→(v.kind=0∨v.kind=k)→encM v k nl=if v.kind=0 then (if nl=true then ([],0) else ([],20)) else if v.kind=2 then (Lib.itoa v.n,0) else if v.kind=3 then ((if v.b=true then [116,114,117,101] else [102,97,108,115,101]),0) else if nl=true∧mkdM v.s=true then (92 :: v.s,0) else (v.s,0):=fun v h1 h2=>by
  unfold encM;rw [if_neg (not_not_intro hk),if_neg (not_not_intro ⟨h1,h2⟩)]
 by_cases hz:nl=true∧s=[]
 ·rw [if_pos hz]
  have r0:rightM ⟨0,[],0,false⟩=true:=by decide +kernel
  refine ⟨r0,?_⟩
  rw [en _ r0 (.inl rfl)]
  simp [hz.1,hz.2]
 ·rw [if_neg hz] at h ⊢
  by_cases k2:k=2
  ·rw [if_pos k2] at h ⊢
   by_cases hp:(pnM s).2≠0
   ·rw [if_pos hp] at h;exact absurd h hp
   ·rw [if_neg hp]
    have r2:rightM ⟨2,[],(pnM s).1,false⟩=true:=(right_iff _).2 (.inr (.inr (.inl ⟨rfl,rfl,rfl⟩)))
    refine ⟨r2,?_⟩
    rw [en _ r2 (.inr k2.symm)]
    have:=itoa_par (s:=s) zo
    simp [this]
  ·rw [if_neg k2] at h ⊢
   by_cases k3:k=3
   ·rw [if_pos k3] at h ⊢
    have r3:∀ b,rightM ⟨3,[],0,b⟩=true:=fun b=>(right_iff _).2 (.inr (.inr (.inr ⟨rfl,rfl,rfl⟩)))
    by_cases t1:s=[116,114,117,101]
    ·rw [if_pos t1]
     exact ⟨r3 _,by rw [en _ (r3 _) (.inr k3.symm),t1];rfl⟩
    ·rw [if_neg t1] at h ⊢
     by_cases t2:s=[102,97,108,115,101]
     ·rw [if_pos t2]
      exact ⟨r3 _,by rw [en _ (r3 _) (.inr k3.symm),t2];rfl⟩
     ·rw [if_neg t2] at h;simp at h
   ·rw [if_neg k3] at h ⊢
    have k1:k=1:=by omega
    have r1:∀ x:Str,validM x=true→rightM ⟨1,x,0,false⟩=true:=fun x hx=>(right_iff _).2 (.inr (.inl ⟨rfl,hx,rfl,rfl⟩))
    by_cases hv:validM s=false
    ·rw [if_pos hv] at h;simp at h
    ·rw [if_neg hv] at h ⊢
     have hv':validM s=true:=by simpa using hv
     by_cases hc:nl=false∨¬ s.take 1=[92]
     ·rw [if_pos hc]
      refine ⟨r1 s hv',?_⟩
      rw [en _ (r1 s hv') (.inr k1.symm)]
      have hm:¬ (nl=true∧mkdM s=true):=by
       rintro ⟨q1,q2⟩
       simp only [mkdM,decide_eq_true_eq] at q2
       rcases hc with hc|hc
       ·rw [hc] at q1;simp at q1
       ·rcases q2 with q2|q2
        ·exact hz ⟨q1,q2⟩
        ·exact hc q2
      simp only [show ¬ ((1:Int)=0) by omega,show ¬ ((1:Int)=2) by omega,show ¬ ((1:Int)=3) by omega,if_false,if_neg hm]
     ·rw [if_neg hc] at h ⊢
      have hc2:nl=true∧s.take 1=[92]:=by
       rw [not_or] at hc
       exact ⟨by simpa using hc.1,by simpa using hc.2⟩
      obtain ⟨r,rfl⟩:∃ r,s=92 :: r:=by
       cases s with
       | nil=>simp at hc2
       | cons b r=>simp at hc2;exact ⟨r,by rw [hc2.2]⟩
      simp only [List.drop_succ_cons,List.drop_zero] at h ⊢
      by_cases hq:r≠[]∧¬ r.take 1=[92]
      ·rw [if_pos hq] at h;simp at h
      ·rw [if_neg hq]
       have hvr:validM r=true:=by rw [←valid_92];exact hv'
       refine ⟨r1 r hvr,?_⟩
       rw [en _ (r1 r hvr) (.inr k1.symm)]
       have hm:nl=true∧mkdM r=true:=by
        refine ⟨hc2.1,?_⟩
        simp only [mkdM,decide_eq_true_eq]
        by_cases hr:r=[]
        ·exact .inl hr
        ·exact .inr (by
          by_cases h9:r.take 1=[92]
          ·exact h9
          ·exact absurd ⟨hr,h9⟩ hq)
       simp only [show ¬ ((1:Int)=0) by omega,show ¬ ((1:Int)=2) by omega,show ¬ ((1:Int)=3) by omega,if_false,if_pos hm]
theorem de_len (s:Str) (k:Int) (nl:Bool):(deM s k nl).1.s.length≤s.length:=by
 unfold deM
 repeat' split
 all_goals simp
theorem par_i64 (s:Str):i64M (pnM s).1:=by
 unfold pnM i64M
 repeat' split
 ·simp only [];omega
 ·simp only [];omega
 ·simp only [];omega
theorem de_i64 (s:Str) (k:Int) (nl:Bool):i64M (deM s k nl).1.n:=by
 have hp:=par_i64 s
 have hz:i64M 0:=⟨by omega,by omega⟩
 unfold deM
 repeat' split
 all_goals first|exact hz|exact hp
end Go.Proofs.YtllanbmpacgigaaGreatDoor
