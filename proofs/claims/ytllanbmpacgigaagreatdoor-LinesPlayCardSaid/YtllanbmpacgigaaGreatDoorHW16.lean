/- Texts of the proof, joined. -/
import Derived.Lib.ItoaLen
import Derived.Test.YtllanbmpacgigaaGreatDoorHP16
import Derived.Test.YtllanbmpacgigaaGreatDoorHW17
namespace Go.Proofs.YtllanbmpacgigaaGreatDoor
open Operand renaming tmp→Y,const→yc
open MC renaming seq→Z,reg→yr,skip→yk,cond→yd
open MO renaming call→yl,bin→yb
open Nat renaming reduceAdd→zq1,reduceLeDiff→zq2,reduceEqDiff→zq3,reduceLT→zq4
open Int renaming reduceToNat→zq5
set_option linter.unusedSimpArgs false
set_option linter.unusedVariables false
attribute [local irreducible] SemK UnitK StK AlcK BslK CallK CallV Instr.box Builtin.append_ Instr.makeSlice Instr.makeMap Instr.lookup Instr.mapUpdate Instr.sliceAt convert
open Go.RowKit
theorem dropB16 (l:Str) (k:Nat) (h:(k:Int) < l.length):l.drop k=l.getD k 0 :: l.drop (k+1):=by
 rw [List.drop_eq_getElem_cons zo];simp [List.getD,List.getElem?_eq_getElem (show k < l.length by omega)]
theorem u8ne16 {b:UInt8} {c:UInt8} {n:Int} (hn:(c.toNat:Int)=n) (h:¬ (b.toNat:Int)=n):¬ b=c:=fun e=>h (by rw [e];exact hn)
theorem u8eq16 {b:UInt8} {c:UInt8} {n:Int} (hn:(c.toNat:Int)=n) (h:(b.toNat:Int)=n):b=c:=UInt8.toNat_inj.1 zo
theorem dgB_t {b:UInt8} (h1:48≤(b.toNat:Int)) (h2:(b.toNat:Int)≤57):dgB b=true:=by simp only [dgB,decide_eq_true_eq];omega
theorem dgB_f {b:UInt8} (h:(b.toNat:Int) < 48∨57 < (b.toNat:Int)):dgB b=false:=by simp only [dgB,decide_eq_false_iff_not];omega
theorem bod_at (b:UInt8) (r:Str):bodM (b :: r)=(!(decide (b=48)) && (b :: r).all dgB):=by
 simp only [bodM]
 by_cases h:b=48<;>simp [h]
theorem form_48:formM [48]=true:=by decide
theorem form_ne {s:Str} (h:¬ s=[48]):formM s=bodM (trM s):=by simp [formM,h]
def c195:MC:=(Z (yr [qq 4 (.mv (yc (S [])))]) (Z (Z (yr [qm 5 0,qm 6 1,qq 7 (yl 157 [(Y 5),(Y 6)])]) (yd (Y 7) (Z (yr [qm 8 0,qm 9 1,qq 10 (.lenS (Y 9)),qq 11 (.slS (Y 8) (.some (Y 10)) none),qm 4 11]) .ret) yk)) (Z (yr [qm 12 0,qm 4 12]) .ret)))
theorem trim0_spec (s:Str) (w:World) (hl:s.length≤1000000000):Pu Tryz.prog 195 #[S s,S [45]] w (S (trM s)):=by
 refine En 13 c195 Tryz.func195 ?_
 have hS:=Sep.start w
 by_cases hc0:s.take 1=[45]
 ·have hlen:1≤s.length:=by
   cases s with
   | nil=>simp at hc0
   | cons _ _=>simp
  have e:trM s=s.drop 1:=by simp [trM,negM,hc0]
  rw [e]
  repeat' (first|refine aM ?_|refine G.reg fun K hK=>?_|(refine kM ?_;clear hK K)|(refine kN ?_;clear hK K;intro wd hxd;have hS:=Sep.ext ‹_› hxd)|((first|have hk:=hK|have hk:=hK2);clear hk;simp (disch:=(first|exact dis|fail)) only [push_cast,↓reduceIte,zq1,zq2,zq3,zq4,zq5,decide_eq_true hc0])|((first|refine brO_mk ?_ ?_|refine brQ_mk ?_ ?_)<;>intro hb<;>(try simp only [Bool.not_eq_true',Bool.not_eq_false'] at hb)<;>have hc:=hb<;>(try simp only [hcs,reduceCtorEq] at hc)<;>(try (exfalso;omega))<;>simp only [hb]<;>clear hb)|(refine zalc ?_;intro gb wb hS)|(refine zbsl ?_;intro gb wb hS)|((with_reducible (show SemK _ (Instr.box _ _) _ _ _ _));refine zbox ?_;intro gb wb hS)|((with_reducible (show StK _ _ (Value.pointer _) _ _ _ _ _));refine zst ?_;intro wb hS;(try simp only [sets] at hS))|(refine zcv ?_)|(refine zcp 157 (hpre0_spec s 45 _ hl) ?_;intro wb hS)|(refine G.drt mixed fun K hK wd hxd=>?_;have hS:=Sep.ext ‹_› hxd)|with_reducible refine OT_leaf ?_|(with_reducible refine OT_tail fun K2 hK2=>?_)|(refine kO ?_;clear hK2 K2;intro wd hxd;have hS:=Sep.ext ‹_› hxd)|with_reducible refine OT_br fun K2 hK2=>?_|(refine hK2 _ _ ?_ ?_<;>clear hK2 K2)|refine G.drg mixed fun K hK=>?_|(refine G.cond (by simp only [push_cast,↓reduceIte,zq1,zq2,zq3,zq4,zq5,decide_eq_true hc0];rfl) ?_ ?_<;>intro hc<;>(try simp only [hcs,reduceCtorEq] at hc)<;>(try (exfalso;omega))))
  refine rM ?_
  (first|exact Sep.xt ‹_›|exact ⟨rfl,Sep.xt ‹_›⟩)
 ·have e:trM s=s:=by simp [trM,negM,hc0]
  rw [e]
  repeat' (first|refine aM ?_|refine G.reg fun K hK=>?_|(refine kM ?_;clear hK K)|(refine kN ?_;clear hK K;intro wd hxd;have hS:=Sep.ext ‹_› hxd)|((first|have hk:=hK|have hk:=hK2);clear hk;simp (disch:=(first|exact dis|fail)) only [push_cast,↓reduceIte,zq1,zq2,zq3,zq4,zq5,decide_eq_false hc0])|((first|refine brO_mk ?_ ?_|refine brQ_mk ?_ ?_)<;>intro hb<;>(try simp only [Bool.not_eq_true',Bool.not_eq_false'] at hb)<;>have hc:=hb<;>(try simp only [hcs,reduceCtorEq] at hc)<;>(try (exfalso;omega))<;>simp only [hb]<;>clear hb)|(refine zalc ?_;intro gb wb hS)|(refine zbsl ?_;intro gb wb hS)|((with_reducible (show SemK _ (Instr.box _ _) _ _ _ _));refine zbox ?_;intro gb wb hS)|((with_reducible (show StK _ _ (Value.pointer _) _ _ _ _ _));refine zst ?_;intro wb hS;(try simp only [sets] at hS))|(refine zcv ?_)|(refine zcp 157 (hpre0_spec s 45 _ hl) ?_;intro wb hS)|(refine G.drt mixed fun K hK wd hxd=>?_;have hS:=Sep.ext ‹_› hxd)|with_reducible refine OT_leaf ?_|(with_reducible refine OT_tail fun K2 hK2=>?_)|(refine kO ?_;clear hK2 K2;intro wd hxd;have hS:=Sep.ext ‹_› hxd)|with_reducible refine OT_br fun K2 hK2=>?_|(refine hK2 _ _ ?_ ?_<;>clear hK2 K2)|refine G.drg mixed fun K hK=>?_|(refine G.cond (by simp only [push_cast,↓reduceIte,zq1,zq2,zq3,zq4,zq5,decide_eq_false hc0];rfl) ?_ ?_<;>intro hc<;>(try simp only [hcs,reduceCtorEq] at hc)<;>(try (exfalso;omega))))
  refine rM ?_
  (first|exact Sep.xt ‹_›|exact ⟨rfl,Sep.xt ‹_›⟩)
def c176:MC:=(Z (yr [qq 4 (.mv (yc (S [])))]) (Z (yr [qm 5 0,qm 6 1,qq 7 (yl 195 [(Y 5),(Y 6)]),qm 4 7]) .ret))
theorem trim_spec (s:Str) (w:World) (hl:s.length≤1000000000):Pu Tryz.prog 176 #[S s,S [45]] w (S (trM s)):=by
 refine En 8 c176 Tryz.func176 ?_
 have hS:=Sep.start w
 repeat' (first|refine aM ?_|refine G.reg fun K hK=>?_|(refine kM ?_;clear hK K)|refine sK ?_|(refine zcp 195 (trim0_spec s _ hl) ?_;intro wb hS))
 refine rM ?_
 (first|exact Sep.xt ‹_›|exact ⟨rfl,Sep.xt ‹_›⟩)
theorem tr_len (s:Str):(trM s).length≤s.length:=by unfold trM;split<;>simp
def c140l1:MC:=(Z (Z (yr [qm 15 3,qm 16 0,qq 17 (.lenS (Y 16)),qq 18 (yb .lss (Y 15) (Y 17))]) (yd (Y 18) yk (.exit 0))) (Z (.blk 1 (Z (yr [qm 21 0,qm 22 3,qq 23 (.idxS (Y 21) (Y 22)),qq 24 (yb .lss (Y 23) (yc (.int .u8 48))),qm 25 24,qmf 25 26 0,qmf 25 27 3,qf 25 28 (.idxS (Y 26) (Y 27)),qf 25 29 (yb .gtr (Y 28) (yc (.int .u8 57))),qq 30 (.pick (Y 25) (kb true) (Y 29))]) (yd (Y 30) (Z (yr [qq 2 (.mv (kb false))]) .ret) yk))) (yr [qm 19 3,qq 20 (yb .add (Y 19) (ki 1)),qm 3 20])))
def c140:MC:=(Z (yr [qq 2 (.mv (kb false))]) (Z (Z (yr [qm 4 0,qq 5 (yb .eql (Y 4) (yc (S [48])))]) (yd (Y 5) (Z (yr [qq 2 (.mv (kb true))]) .ret) yk)) (Z (yr [qm 6 0,qq 7 (yl 176 [(Y 6),(yc (S [45]))]),qm 0 7]) (Z (Z (yr [qm 8 0,qq 9 (yb .eql (Y 8) (yc (S []))),qm 10 9,qmf 10 11 0,qf 10 12 (.idxS (Y 11) (ki 0)),qf 10 13 (yb .eql (Y 12) (yc (.int .u8 48))),qq 14 (.pick (Y 10) (kb true) (Y 13))]) (yd (Y 14) (Z (yr [qq 2 (.mv (kb false))]) .ret) yk)) (Z (Z (yr [qq 3 (.mv (ki 0))]) (.blk 0 (.loop c140l1))) (Z (yr [qq 2 (.mv (kb true))]) .ret))))))
theorem form_spec (s:Str) (w:World) (hl:s.length≤1000000):Pu Tryz.prog 140 #[S s] w (.bool (formM s)):=by
 refine En 31 c140 Tryz.func140 ?_
 have hS:=Sep.start w
 by_cases h0:s=[48]
 ·subst h0
  have hz:(([48]:Str) == [48])=true:=rfl
  (have fct:=@hz;repeat' (first|refine aM ?_|refine G.reg fun K hK=>?_|(refine kM ?_;clear hK K)|refine sK ?_|(refine brO_n ?_ ?_<;>intro hb hc<;>first|exact zxf|(simp only [hb];clear hb))|(refine G.cn ?_ ?_<;>intro hc<;>try exact zxf)))<;>(try clear fct)
  refine rM ?_
  rw [form_48]
  (first|exact Sep.xt ‹_›|exact ⟨rfl,Sep.xt ‹_›⟩)
 ·have hz : (s == [48])=false:=by simpa using h0
  have hf:=form_ne h0
  have htl:=tr_len s
  generalize ht:trM s=t at hf htl
  cases t with
  | nil =>
    have hz2:(([]:Str) == [])=true:=rfl
    (have fct:=(a3 @hz @ht @hz2);repeat' (first|refine aM ?_|refine G.reg fun K hK=>?_|(refine kM ?_;clear hK K)|refine sK ?_|(refine brO_n ?_ ?_<;>intro hb hc<;>first|exact zxf|(simp only [hb];clear hb))|(refine zcp 176 (trim_spec s _ zo) ?_;intro wb hS)|(refine G.cn ?_ ?_<;>intro hc<;>try exact zxf)))<;>(try clear fct)
    refine rM ?_
    rw [hf]
    exact ⟨rfl,Sep.xt ‹_›⟩
  | cons b r =>
    have hz2:(b :: r == [])=false:=by simp
    rw [bod_at] at hf
    (have fct:=(a3 @hz @ht @hz2);repeat' (first|refine aM ?_|refine G.reg fun K hK=>?_|(refine kM ?_;clear hK K)|refine sK ?_|(refine brO_n ?_ ?_<;>intro hb hc<;>first|exact zxf|(simp only [hb];clear hb))|(refine zcp 176 (trim_spec s _ zo) ?_;intro wb hS)|(refine G.cn ?_ ?_<;>intro hc<;>try exact zxf)))<;>(try clear fct)
    ·refine rM ?_
     rw [hf,u8eq16 (c:=48) (n:=48) rfl hc]
     exact ⟨rfl,Sep.xt ‹_›⟩
    ·rw [decide_eq_false (u8ne16 (n:=48) rfl hc),Bool.not_false,Bool.true_and] at hf
     generalize b :: r=t at *
     refine G.loop (fun r w'=>∃ k:Nat,k≤t.length∧r 3=I k∧r 0=S t∧t.all dgB=(t.drop k).all dgB∧Sep w w' []) (fun r _=>t.length - toN (r 3)) ?_ ?_
     ·refine ⟨0,?_⟩
      ((repeat' apply aI)<;>first|exact dj|(simp only [push_cast,↓reduceIte,zq1,zq2,zq3,zq4,zq5]<;>omega)|skip)
      all_goals rfl
     ·clear hS
      rintro u wl ⟨k,hk,h3,q0,e,hS⟩ ih
      by_cases hlt:(k:Int) < t.length
      ·rw [dropB16 t k hlt,List.all_cons] at e
       (have fct:=(aI @h3 @q0);repeat' (first|refine aM ?_|refine G.reg fun K hK=>?_|(refine kM ?_;clear hK K)|refine sK ?_|(refine brO_n ?_ ?_<;>intro hb hc<;>first|exact zxf|(simp only [hb];clear hb))|(refine G.cn ?_ ?_<;>intro hc<;>try exact zxf)))<;>(try clear fct)
       all_goals first
        | ((have fct:=(aI @h3 @q0);refine rM ?_);rw [hf,e,dgB_f zo,Bool.false_and];exact Sep.xt ‹_›)
        | ((have fct:=(aI @h3 @q0);refine rM ?_);rw [hf,e,dgB_f zo,Bool.false_and];exact ⟨rfl,Sep.xt ‹_›⟩)
        | (rw [dgB_t zo zo,Bool.true_and] at e;(refine ih _ _ ⟨k+1,?_⟩ ?_;rotate_left;(focus ((simp only [push_cast,↓reduceIte,zq1,zq2,zq3,zq4,zq5,toN_i,h3,q0]<;>omega)));((repeat' apply aI)<;>first|exact dj|(simp only [push_cast,↓reduceIte,zq1,zq2,zq3,zq4,zq5,h3,q0]<;>omega)|skip));done)
      ·(have fct:=(aI @h3 @q0);repeat' (first|refine aM ?_|refine G.reg fun K hK=>?_|(refine kM ?_;clear hK K)|refine sK ?_|(refine brO_n ?_ ?_<;>intro hb hc<;>first|exact zxf|(simp only [hb];clear hb))|(refine G.cn ?_ ?_<;>intro hc<;>try exact zxf)))<;>(try clear fct)
       (have fct:=(aI @h3 @q0);refine rM ?_)
       rw [hf,e,List.drop_eq_nil_of_le zo]
       exact ⟨rfl,Sep.xt ‹_›⟩
def c100:MC:=(Z (yr [qq 2 (.mv (ki 0)),qq 3 (.mv (ki 0))]) (Z (Z (yr [qm 6 0,qq 7 (yl 140 [(Y 6)]),qq 8 (.un .not (Y 7))]) (yd (Y 8) (Z (yr [qq 2 (.mv (ki 0)),qq 3 (.mv (ki 17))]) .ret) yk)) (Z (yr [qm 10 0,qq 11 (yl 141 [(Y 10),(ki 10),(ki 64)]),qm 9 11,qq 12 (.ext 0 (Y 9)),qq 13 (.ext 1 (Y 9)),qm 4 12,qm 5 13]) (Z (Z (yr [qm 14 5,qq 15 (.raw (.binOp .neq 69 (Y 14) (yc .nilIface) 69) 4)]) (yd (Y 15) (Z (yr [qq 2 (.mv (ki 0)),qq 3 (.mv (ki 18))]) .ret) yk)) (Z (yr [qm 16 4,qm 2 16,qq 3 (.mv (ki 0))]) .ret)))))
theorem parse16_spec (s:Str) (w:World) (hl:s.length≤1000000) (hv:ErrV w):Pu Tryz.prog 100 #[S s] w (.tuple #[I (pnM s).1,I (pnM s).2]):=by
 refine En 17 c100 Tryz.func100 ?_
 have hS:=Sep.start w
 unfold pnM
 by_cases hf:formM s=true
 ·rw [if_neg (by rw [hf];simp)]
  by_cases hr:-9223372036854775808≤numM s∧numM s≤9223372036854775807
  ·rw [if_pos hr]
   (have fct:=@hf;repeat' (first|refine aM ?_|refine G.reg fun K hK=>?_|(refine kM ?_;clear hK K)|refine sK ?_|(refine zcp 140 (form_spec s _ hl) ?_;intro wb hS)|(refine zcp 141 (pi_ok s _ hl hf hr) ?_;intro wb hS)|(refine znn ?_)|(refine G.cn ?_ ?_<;>intro hc<;>try exact zxf)))<;>(try clear fct)
   refine rM ?_
   (first|exact Sep.xt ‹_›|exact ⟨rfl,Sep.xt ‹_›⟩)
  ·rw [if_neg hr]
   (have fct:=@hf;repeat' (first|refine aM ?_|refine G.reg fun K hK=>?_|(refine kM ?_;clear hK K)|refine sK ?_|(refine zcp 140 (form_spec s _ hl) ?_;intro wb hS)|(refine zco 141 (pi_range s _ hl hf hr (hv.ext hS.x)) ?_;rintro vb wb ⟨n,t,p,rfl,hx⟩;have hS:=Sep.ext hS hx)|(refine zns ?_)|(refine G.cn ?_ ?_<;>intro hc<;>try exact zxf)))<;>(try clear fct)
   refine rM ?_
   (first|exact Sep.xt ‹_›|exact ⟨rfl,Sep.xt ‹_›⟩)
 ·have hff:formM s=false:=by simpa using hf
  rw [if_pos hff]
  (have fct:=@hff;repeat' (first|refine aM ?_|refine G.reg fun K hK=>?_|(refine kM ?_;clear hK K)|refine sK ?_|(refine zcp 140 (form_spec s _ hl) ?_;intro wb hS)|(refine G.cn ?_ ?_<;>intro hc<;>try exact zxf)))<;>(try clear fct)
  refine rM ?_
  (first|exact Sep.xt ‹_›|exact ⟨rfl,Sep.xt ‹_›⟩)
def c53l1:MC:=(Z (Z (yr [qm 24 3,qm 25 0,qq 26 (.lenS (Y 25)),qq 27 (yb .lss (Y 24) (Y 26))]) (yd (Y 27) yk (.exit 0))) (Z (.blk 1 (Z (yr [qm 30 0,qm 31 3,qq 32 (.idxS (Y 30) (Y 31)),qq 33 (yb .lss (Y 32) (yc (.int .u8 48))),qm 34 33,qmf 34 35 0,qmf 34 36 3,qf 34 37 (.idxS (Y 35) (Y 36)),qf 34 38 (yb .gtr (Y 37) (yc (.int .u8 57))),qq 39 (.pick (Y 34) (kb true) (Y 38))]) (yd (Y 39) (Z (yr [qq 2 (.mv (kb false))]) .ret) yk))) (yr [qm 28 3,qq 29 (yb .add (Y 28) (ki 1)),qm 3 29])))
def c53:MC:=(Z (yr [qq 2 (.mv (kb false))]) (Z (Z (yr [qm 4 0,qq 5 (yb .eql (Y 4) (yc (S [48])))]) (yd (Y 5) (Z (yr [qq 2 (.mv (kb true))]) .ret) yk)) (Z (Z (yr [qm 6 0,qq 7 (.lenS (Y 6)),qq 8 (yb .gtr (Y 7) (ki 0)),qm 9 8,qmt 9 10 0,qt 9 11 (.idxS (Y 10) (ki 0)),qt 9 12 (yb .eql (Y 11) (yc (.int .u8 45))),qq 13 (.pick (Y 9) (Y 12) (kb false))]) (yd (Y 13) (yr [qm 14 0,qq 15 (.slS (Y 14) (.some (ki 1)) none),qm 0 15]) yk)) (Z (Z (yr [qm 16 0,qq 17 (.lenS (Y 16)),qq 18 (yb .eql (Y 17) (ki 0)),qm 19 18,qmf 19 20 0,qf 19 21 (.idxS (Y 20) (ki 0)),qf 19 22 (yb .eql (Y 21) (yc (.int .u8 48))),qq 23 (.pick (Y 19) (kb true) (Y 22))]) (yd (Y 23) (Z (yr [qq 2 (.mv (kb false))]) .ret) yk)) (Z (Z (yr [qq 3 (.mv (ki 0))]) (.blk 0 (.loop c53l1))) (Z (yr [qq 2 (.mv (kb true))]) .ret))))))
theorem cpre_spec (s:Str) (c:UInt8) (w:World) (hl:s.length≤1000000000):Pu Tryz.prog 128 #[S s,S [c]] w (.tuple #[S (if s.take 1=[c] then s.drop 1 else s),.bool (decide (s.take 1=[c]))]):=by
 have h:=cutp_spec s [c] w hl ze
 have e:(s.take [c].length == [c])=decide (s.take 1=[c]):=by rw [Bool.eq_iff_iff];simp
 rw [e] at h;simpa using h
def deM (s:Str) (k:Int) (nl:Bool):Val×Int :=
 if ¬ (1≤k∧k≤3) then (⟨0,[],0,false⟩,22) else if nl=true∧s=[] then (⟨0,[],0,false⟩,0)
 else if k=2 then (if (pnM s).2≠0 then (⟨0,[],0,false⟩,(pnM s).2) else (⟨2,[],(pnM s).1,false⟩,0))
 else if k=3 then (if s=[116,114,117,101] then (⟨3,[],0,true⟩,0) else if s=[102,97,108,115,101] then (⟨3,[],0,false⟩,0) else (⟨0,[],0,false⟩,19))
 else if validM s=false then (⟨0,[],0,false⟩,14) else if nl=false∨¬ s.take 1=[92] then (⟨1,s,0,false⟩,0)
 else if s.drop 1≠[]∧¬ (s.drop 1).take 1=[92] then (⟨0,[],0,false⟩,23) else (⟨1,s.drop 1,0,false⟩,0)
theorem de_fin {v:Val} {n:Int} {p:Val×Int} (h:p=(v,n)):Value.tuple #[.agg #[I v.kind,S v.s,I v.n,.bool v.b],.int .i64 n]=.tuple #[.agg #[I p.1.kind,S p.1.s,I p.1.n,.bool p.1.b],I p.2]:=by rw [h]
def c182:MC:=(Z (yr [qq 3 (.raw (.box 121 (Y 1)) 0),qq 4 (.alc 129 [(.int .i64 0),(S []),(.int .i64 0),(.bool false)]),qq 5 (.mv (ki 0))]) (Z (Z (yr [qq 10 (.fad 1 (Y 3)),qq 11 (.ld none (Y 10)),qq 12 (yl 113 [(Y 11)]),qq 13 (.un .not (Y 12))]) (yd (Y 13) (Z (yr [qq 14 (.bld [(.int .i64 0),(S []),(.int .i64 0),(.bool false)] []),qn (.st 4 (Y 4) (Y 14)),qq 5 (.mv (ki 22))]) .ret) yk)) (Z (Z (yr [qq 15 (.fad 2 (Y 3)),qq 16 (.ld none (Y 15)),qm 17 16,qmt 17 18 0,qt 17 19 (yb .eql (Y 18) (yc (S []))),qq 20 (.pick (Y 17) (Y 19) (kb false))]) (yd (Y 20) (Z (yr [qq 21 (.bld [(.int .i64 0),(S []),(.int .i64 0),(.bool false)] []),qn (.st 4 (Y 4) (Y 21)),qq 5 (.mv (ki 0))]) .ret) yk)) (Z (Z (yr [qq 22 (.fad 1 (Y 3)),qq 23 (.ld none (Y 22))]) (.blk 0 (Z (yr [qq 25 (yb .eql (Y 23) (ki 2)),qm 24 25]) (yd (Y 24) (Z (yr [qm 27 0,qq 28 (yl 100 [(Y 27)]),qm 26 28,qq 29 (.ext 0 (Y 26)),qq 30 (.ext 1 (Y 26)),qm 6 29,qm 7 30]) (Z (Z (yr [qm 31 7,qq 32 (yb .neq (Y 31) (ki 0))]) (yd (Y 32) (Z (yr [qq 33 (.bld [(.int .i64 0),(S []),(.int .i64 0),(.bool false)] []),qm 34 7,qn (.st 4 (Y 4) (Y 33)),qm 5 34]) .ret) yk)) (Z (yr [qm 35 6,qq 36 (yl 154 [(Y 35)]),qn (.st 4 (Y 4) (Y 36)),qq 5 (.mv (ki 0))]) .ret))) (Z (yr [qq 38 (yb .eql (Y 23) (ki 3)),qm 37 38]) (yd (Y 37) (Z (Z (yr [qm 39 0,qq 40 (yb .neq (Y 39) (yc (S [116,114,117,101]))),qm 41 40,qmt 41 42 0,qt 41 43 (yb .neq (Y 42) (yc (S [102,97,108,115,101]))),qq 44 (.pick (Y 41) (Y 43) (kb false))]) (yd (Y 44) (Z (yr [qq 45 (.bld [(.int .i64 0),(S []),(.int .i64 0),(.bool false)] []),qn (.st 4 (Y 4) (Y 45)),qq 5 (.mv (ki 19))]) .ret) yk)) (Z (yr [qm 46 0,qq 47 (yb .eql (Y 46) (yc (S [116,114,117,101]))),qq 48 (yl 155 [(Y 47)]),qn (.st 4 (Y 4) (Y 48)),qq 5 (.mv (ki 0))]) .ret)) yk)))))) (Z (Z (yr [qm 49 0,qq 50 (yl 104 [(Y 49)]),qq 51 (.un .not (Y 50))]) (yd (Y 51) (Z (yr [qq 52 (.bld [(.int .i64 0),(S []),(.int .i64 0),(.bool false)] []),qn (.st 4 (Y 4) (Y 52)),qq 5 (.mv (ki 14))]) .ret) yk)) (Z (yr [qm 54 0,qq 55 (yl 128 [(Y 54),(yc (S [92]))]),qm 53 55,qq 56 (.ext 0 (Y 53)),qq 57 (.ext 1 (Y 53)),qm 8 56,qm 9 57]) (Z (Z (yr [qq 58 (.fad 2 (Y 3)),qq 59 (.ld none (Y 58)),qq 60 (.un .not (Y 59)),qm 61 60,qmf 61 62 9,qf 61 63 (.un .not (Y 62)),qq 64 (.pick (Y 61) (kb true) (Y 63))]) (yd (Y 64) (Z (yr [qm 65 0,qq 66 (yl 153 [(Y 65)]),qn (.st 4 (Y 4) (Y 66)),qq 5 (.mv (ki 0))]) .ret) yk)) (Z (Z (yr [qm 67 8,qq 68 (yb .neq (Y 67) (yc (S []))),qm 69 68,qmt 69 70 8,qt 69 71 (yl 116 [(Y 70),(yc (S [92]))]),qt 69 72 (.un .not (Y 71)),qq 73 (.pick (Y 69) (Y 72) (kb false))]) (yd (Y 73) (Z (yr [qq 74 (.bld [(.int .i64 0),(S []),(.int .i64 0),(.bool false)] []),qn (.st 4 (Y 4) (Y 74)),qq 5 (.mv (ki 23))]) .ret) yk)) (Z (yr [qm 75 8,qq 76 (yl 153 [(Y 75)]),qn (.st 4 (Y 4) (Y 76)),qq 5 (.mv (ki 0))]) .ret)))))))))
theorem dec_spec (s:Str) (nm:Str) (k:Int) (nl:Bool) (w:World) (hl:s.length≤1000000) (hv:ErrV w):Pu Tryz.prog 182 #[S s,.agg #[S nm,I k,.bool nl]] w (.tuple #[(.agg #[I (deM s k nl).1.kind,S (deM s k nl).1.s,I (deM s k nl).1.n,.bool (deM s k nl).1.b]),I (deM s k nl).2]):=by
 refine En 77 c182 Tryz.func182 ?_
 have hS:=Sep.start w
 by_cases hk:1≤k∧k≤3
 ·repeat' (first|refine aM ?_|refine G.reg fun K hK=>?_|(refine kM ?_;clear hK K)|(refine kN ?_;clear hK K;intro wd hxd;have hS:=Sep.ext ‹_› hxd)|((first|have hk:=hK|have hk:=hK2);clear hk;simp (disch:=(first|exact dis|fail)) only [push_cast,↓reduceIte,zq1,zq2,zq3,zq4,zq5,decide_eq_true hk])|((first|refine brO_mk ?_ ?_|refine brQ_mk ?_ ?_)<;>intro hb<;>(try simp only [Bool.not_eq_true',Bool.not_eq_false'] at hb)<;>have hc:=hb<;>(try simp only [hcs,reduceCtorEq] at hc)<;>(try (exfalso;omega))<;>simp only [hb]<;>clear hb)|(refine zalc ?_;intro gb wb hS)|(refine zbsl ?_;intro gb wb hS)|((with_reducible (show SemK _ (Instr.box _ _) _ _ _ _));refine zbox ?_;intro gb wb hS)|((with_reducible (show StK _ _ (Value.pointer _) _ _ _ _ _));refine zst ?_;intro wb hS;(try simp only [sets] at hS))|(refine zcv ?_)|(refine zcp 113 (known_spec k _) ?_;intro wb hS)|(refine zcp 100 (parse16_spec s _ hl (hv.ext hS.x)) ?_;intro wb hS)|(refine zcp 154 (int17_spec _ _) ?_;intro wb hS)|(refine zcp 155 (bool17_spec _ _) ?_;intro wb hS)|(refine zcp 153 (text17_spec _ _) ?_;intro wb hS)|(refine zcp 104 (valid_spec _ _ zo) ?_;intro wb hS)|(refine zcp 128 (cpre_spec s 92 _ zo) ?_;intro wb hS)|(refine zcp 116 (hpre_spec _ 92 _ (by (try simp only [apply_ite List.length]);(try split)<;>simp<;>omega)) ?_;intro wb hS)|(refine G.drt mixed fun K hK wd hxd=>?_;have hS:=Sep.ext ‹_› hxd)|with_reducible refine OT_leaf ?_|(with_reducible refine OT_tail fun K2 hK2=>?_)|(refine kO ?_;clear hK2 K2;intro wd hxd;have hS:=Sep.ext ‹_› hxd)|with_reducible refine OT_br fun K2 hK2=>?_|(refine hK2 _ _ ?_ ?_<;>clear hK2 K2)|refine G.drg mixed fun K hK=>?_|(refine G.cond (by simp only [push_cast,↓reduceIte,zq1,zq2,zq3,zq4,zq5,decide_eq_true hk];rfl) ?_ ?_<;>intro hc<;>(try simp only [hcs,reduceCtorEq] at hc)<;>(try (exfalso;omega))))
  all_goals
   refine rM ?_
   refine ⟨?_,Sep.xt ‹_›⟩
   clear hS
   first
    | refine de_fin (v:=⟨0,[],0,false⟩) ?_
    | refine de_fin (v:=⟨2,[],(pnM s).1,false⟩) ?_
    | refine de_fin (v:=⟨3,[],0,s == [116,114,117,101]⟩) ?_
    | refine de_fin (v:=⟨1,s,0,false⟩) ?_
    | refine de_fin (v:=⟨1,if s.take 1=[92] then s.drop 1 else s,0,false⟩) ?_
   unfold deM
   first|(simp_all;done)|grind
 ·repeat' (first|refine aM ?_|refine G.reg fun K hK=>?_|(refine kM ?_;clear hK K)|(refine kN ?_;clear hK K;intro wd hxd;have hS:=Sep.ext ‹_› hxd)|((first|have hk:=hK|have hk:=hK2);clear hk;simp (disch:=(first|exact dis|fail)) only [push_cast,↓reduceIte,zq1,zq2,zq3,zq4,zq5,decide_eq_false hk])|((first|refine brO_mk ?_ ?_|refine brQ_mk ?_ ?_)<;>intro hb<;>(try simp only [Bool.not_eq_true',Bool.not_eq_false'] at hb)<;>have hc:=hb<;>(try simp only [hcs,reduceCtorEq] at hc)<;>(try (exfalso;omega))<;>simp only [hb]<;>clear hb)|(refine zalc ?_;intro gb wb hS)|(refine zbsl ?_;intro gb wb hS)|((with_reducible (show SemK _ (Instr.box _ _) _ _ _ _));refine zbox ?_;intro gb wb hS)|((with_reducible (show StK _ _ (Value.pointer _) _ _ _ _ _));refine zst ?_;intro wb hS;(try simp only [sets] at hS))|(refine zcv ?_)|(refine zcp 113 (known_spec k _) ?_;intro wb hS)|(refine G.drt mixed fun K hK wd hxd=>?_;have hS:=Sep.ext ‹_› hxd)|with_reducible refine OT_leaf ?_|(with_reducible refine OT_tail fun K2 hK2=>?_)|(refine kO ?_;clear hK2 K2;intro wd hxd;have hS:=Sep.ext ‹_› hxd)|with_reducible refine OT_br fun K2 hK2=>?_|(refine hK2 _ _ ?_ ?_<;>clear hK2 K2)|refine G.drg mixed fun K hK=>?_|(refine G.cond (by simp only [push_cast,↓reduceIte,zq1,zq2,zq3,zq4,zq5,decide_eq_false hk];rfl) ?_ ?_<;>intro hc<;>(try simp only [hcs,reduceCtorEq] at hc)<;>(try (exfalso;omega))))
  refine rM ?_
  refine ⟨de_fin (v:=⟨0,[],0,false⟩) ?_,Sep.xt ‹_›⟩
  unfold deM;rw [if_pos hk]
theorem valid_92 (s:Str):validM (92 :: s)=validM s:=(valid_app [92] s (by decide +kernel)).1
theorem enc_dec (s : Str) (k:Int) (nl:Bool) (h:(deM s k nl).2=0):rightM (deM s k nl).1=true∧encM (deM s k nl).1 k nl=(s,0):=by
 unfold deM at h ⊢
 by_cases hk:¬ (1≤k∧k≤3)
 ·rw [if_pos hk] at h;simp at h
 rw [if_neg hk] at h ⊢
 simp only [Decidable.not_not] at hk
 have en:∀ v:Val,rightM v=true→(v.kind=0∨v.kind=k)→encM v k nl=if v.kind=0 then (if nl=true then ([],0) else ([],20)) else if v.kind=2 then (Lib.itoa v.n,0) else if v.kind=3 then ((if v.b=true then [116,114,117,101] else [102,97,108,115,101]),0) else if nl=true∧mkdM v.s=true then (92 :: v.s,0) else (v.s,0):=fun v h1 h2=>by
  unfold encM;rw [if_neg (not_not_intro hk),if_neg (not_not_intro ⟨h1,h2⟩)]
 by_cases hz:nl=true∧s=[]
 ·rw [if_pos hz]
  have r0:rightM ⟨0,[],0,false⟩=true:=by decide +kernel
  refine ⟨r0,?_⟩
  rw [en _ r0 (.inl rfl)]
  simp [hz.1,hz.2]
 ·rw [if_neg hz] at h ⊢
  by_cases k2:k=2
  ·rw [if_pos k2] at h ⊢
   by_cases hp:(pnM s).2≠0
   ·rw [if_pos hp] at h;exact absurd h hp
   ·rw [if_neg hp]
    have r2:rightM ⟨2,[],(pnM s).1,false⟩=true:=(right_iff _).2 (.inr (.inr (.inl ⟨rfl,rfl,rfl⟩)))
    refine ⟨r2,?_⟩
    rw [en _ r2 (.inr k2.symm)]
    have:=itoa_par (s:=s) zo
    simp [this]
  ·rw [if_neg k2] at h ⊢
   by_cases k3:k=3
   ·rw [if_pos k3] at h ⊢
    have r3:∀ b,rightM ⟨3,[],0,b⟩=true:=fun b=>(right_iff _).2 (.inr (.inr (.inr ⟨rfl,rfl,rfl⟩)))
    by_cases t1:s=[116,114,117,101]
    ·rw [if_pos t1]
     exact ⟨r3 _,by rw [en _ (r3 _) (.inr k3.symm),t1];rfl⟩
    ·rw [if_neg t1] at h ⊢
     by_cases t2:s=[102,97,108,115,101]
     ·rw [if_pos t2]
      exact ⟨r3 _,by rw [en _ (r3 _) (.inr k3.symm),t2];rfl⟩
     ·rw [if_neg t2] at h;simp at h
   ·rw [if_neg k3] at h ⊢
    have k1:k=1:=by omega
    have r1:∀ x:Str,validM x=true→rightM ⟨1,x,0,false⟩=true:=fun x hx=>(right_iff _).2 (.inr (.inl ⟨rfl,hx,rfl,rfl⟩))
    by_cases hv:validM s=false
    ·rw [if_pos hv] at h;simp at h
    ·rw [if_neg hv] at h ⊢
     have hv':validM s=true:=by simpa using hv
     by_cases hc:nl=false∨¬ s.take 1=[92]
     ·rw [if_pos hc]
      refine ⟨r1 s hv',?_⟩
      rw [en _ (r1 s hv') (.inr k1.symm)]
      have hm:¬ (nl=true∧mkdM s=true):=by
       rintro ⟨q1,q2⟩
       simp only [mkdM,decide_eq_true_eq] at q2
       rcases hc with hc|hc
       ·rw [hc] at q1;simp at q1
       ·rcases q2 with q2|q2
        ·exact hz ⟨q1,q2⟩
        ·exact hc q2
      simp only [show ¬ ((1:Int)=0) by omega,show ¬ ((1:Int)=2) by omega,show ¬ ((1:Int)=3) by omega,if_false,if_neg hm]
     ·rw [if_neg hc] at h ⊢
      have hc2:nl=true∧s.take 1=[92]:=by
       rw [not_or] at hc
       exact ⟨by simpa using hc.1,by simpa using hc.2⟩
      obtain ⟨r,rfl⟩:∃ r,s=92 :: r:=by
       cases s with
       | nil=>simp at hc2
       | cons b r=>simp at hc2;exact ⟨r,by rw [hc2.2]⟩
      simp only [List.drop_succ_cons,List.drop_zero] at h ⊢
      by_cases hq:r≠[]∧¬ r.take 1=[92]
      ·rw [if_pos hq] at h;simp at h
      ·rw [if_neg hq]
       have hvr:validM r=true:=by rw [←valid_92];exact hv'
       refine ⟨r1 r hvr,?_⟩
       rw [en _ (r1 r hvr) (.inr k1.symm)]
       have hm:nl=true∧mkdM r=true:=by
        refine ⟨hc2.1,?_⟩
        simp only [mkdM,decide_eq_true_eq]
        by_cases hr:r=[]
        ·exact .inl hr
        ·exact .inr (by
          by_cases h9:r.take 1=[92]
          ·exact h9
          ·exact absurd ⟨hr,h9⟩ hq)
       simp only [show ¬ ((1:Int)=0) by omega,show ¬ ((1:Int)=2) by omega,show ¬ ((1:Int)=3) by omega,if_false,if_pos hm]
theorem de_len (s:Str) (k:Int) (nl:Bool):(deM s k nl).1.s.length≤s.length:=by
 unfold deM
 repeat' split
 all_goals simp
theorem par_i64 (s:Str):i64M (pnM s).1:=by
 unfold pnM i64M
 repeat' split
 ·simp only [];omega
 ·simp only [];omega
 ·simp only [];omega
theorem de_i64 (s:Str) (k:Int) (nl:Bool):i64M (deM s k nl).1.n:=by
 have hp:=par_i64 s
 have hz:i64M 0:=⟨by omega,by omega⟩
 unfold deM
 repeat' split
 all_goals first|exact hz|exact hp
end Go.Proofs.YtllanbmpacgigaaGreatDoor
