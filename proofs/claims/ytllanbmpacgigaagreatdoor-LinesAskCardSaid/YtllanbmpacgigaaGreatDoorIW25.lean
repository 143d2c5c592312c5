/- Texts of the proof, joined. -/
import Derived.Test.YtllanbmpacgigaaGreatDoorIP25
import Derived.Test.YtllanbmpacgigaaGreatDoorIR02
namespace Go.Proofs.YtllanbmpacgigaaGreatDoor
open Operand renaming tmp→Y,const→yc
open MC renaming seq→Z,reg→yr,skip→yk,cond→yd
open MO renaming call→yl,bin→yb
open Nat renaming reduceAdd→zq1,reduceLeDiff→zq2,reduceEqDiff→zq3,reduceLT→zq4
open Int renaming reduceToNat→zq5
set_option linter.unusedSimpArgs false
set_option linter.unusedVariables false
attribute [local irreducible] SemK UnitK StK AlcK BslK CallK CallV Instr.box Builtin.append_ Instr.makeSlice Instr.makeMap Instr.lookup Instr.mapUpdate Instr.sliceAt convert
open Go.RowKit
def FineV (r:List Val):Prop:=∀ v∈r,v.s.length≤1000000∧-9223372036854775808≤v.n∧v.n≤9223372036854775807
def FineP (ps:List Int) (n:Nat):Prop:=ps.length≤1000∧∀ p∈ps,0≤p∧p < n
theorem fineV_at {r:List Val} (h:FineV r) (p:Int) (h0:0≤p) (h1:p < r.length):(r.getD p.toNat default).s.length≤1000000∧-9223372036854775808≤(r.getD p.toNat default).n∧(r.getD p.toNat default).n≤9223372036854775807:=h _ (getD_mem r p.toNat zo)
theorem mark_step (f:Val→Str) (r:List Val) (ps:List Int) (k:Nat) (h:(k:Int) < ps.length):markM f r (ps.take (k+1))=markM f r (ps.take k)++f (r.getD (ps.getD k default).toNat default):=by
 unfold markM
 rw [takeD ps k h]
 simp
theorem abool_len (b:Bool):(if b=true then ([116,114,117,101]:Str) else [102,97,108,115,101]).length≤5:=by cases b<;>decide
theorem tailV_len {v:Val} (h:v.s.length≤1000000∧-9223372036854775808≤v.n∧v.n≤9223372036854775807):(tailV v).length≤2000000:=by
 have h1:=itoa_le v.n h.2.1 h.2.2
 have h2:=itoa_le v.s.length zo zo
 unfold tailV
 split
 ·simp only [List.length_append,List.length_cons,List.length_nil];omega
 ·split
  ·simp only [List.length_append,List.length_cons,List.length_nil];omega
  ·split
   ·have:=abool_len v.b
    simp only [List.length_append,List.length_cons,List.length_nil];omega
   ·simp
def c185:MC:=(Z (yr [qq 4 (.mv (yc (.slice none 0 0)))]) (Z (Z (yr [qm 5 1]) (yd (Y 5) (Z (yr [qm 6 0,qq 7 (.raw (.call ⟨(.builtin .append),#[(Y 6),(yc (S [116,114,117,101]))],#[65,9]⟩) 65),qm 4 7]) .ret) yk)) (Z (yr [qm 8 0,qq 9 (.raw (.call ⟨(.builtin .append),#[(Y 8),(yc (S [102,97,108,115,101]))],#[65,9]⟩) 65),qm 4 9]) .ret)))
theorem abi_spec {w0 w:World} {v:Value} {xs:Str} {L:List Chk} {R:Value→List Chk} (b:Bool) (hS:Sep w0 w L) (hu:∀ v',Up (accC v 5 eU xs) (accC v' 5 eU (xs++(if b=true then [116,114,117,101] else [102,97,108,115,101]))) L (R v')) (hl:xs.length≤100000000000) :
 Ret Tryz.prog 185 #[v,.bool b] w fun res w'=>Sep w0 w' (R res):=by
 refine En 10 c185 Tryz.func185 ?_
 cases b
 all_goals
  simp only [Bool.false_eq_true,↓reduceIte] at hu
  repeat' (first|refine G.reg fun K hK=>?_|(refine kM ?_;clear hK K)|refine sA ?_|(refine zas ?_ Tryz.underlying9 (hu:=hu);intro vb wb hS)|(refine G.cn ?_ ?_<;>intro hc<;>try exact zxf))
  all_goals
   refine rM ?_
   exact hS
def c152:MC:=(Z (yr [qq 4 (.mv (yc (.slice none 0 0)))]) (Z (yr [qm 5 0,qm 6 1,qq 7 (yl 185 [(Y 5),(Y 6)]),qm 4 7]) .ret))
theorem ab_spec {w0 w:World} {v:Value} {xs:Str} {L:List Chk} {R:Value→List Chk} (b:Bool) (hS:Sep w0 w L) (hu:∀ v',Up (accC v 5 eU xs) (accC v' 5 eU (xs++(if b=true then [116,114,117,101] else [102,97,108,115,101]))) L (R v')) (hl:xs.length≤100000000000) :
 Ret Tryz.prog 152 #[v,.bool b] w fun res w'=>Sep w0 w' (R res):=by
 refine En 8 c152 Tryz.func152 ?_
 repeat' (first|refine G.reg fun K hK=>?_|(refine kM ?_;clear hK K)|refine sA ?_|(refine brO_n ?_ ?_<;>intro hb hc<;>first|exact zxf|(simp only [hb];clear hb))|((first|refine zalc ?_|refine zbsl ?_|((with_reducible refine gBox ?_);refine zbox ?_));intro gb wb hS)|((with_reducible refine gSt ?_);refine zs2 ?_;intro wb hS)|(refine zcv ?_)|(refine zco 185 (abi_spec b hS hu hl) ?_;rintro vb wb hS)|(refine G.cn ?_ ?_<;>intro hc<;>try exact zxf))
 all_goals
  refine rM ?_
  exact hS
def c110l1:MC:=(Z (yr [qq 12 (yb .lss (Y 11) (Y 10))]) (Z (yd (Y 12) yk (.exit 0)) (Z (.blk 1 (Z (yr [qq 13 (.adr 1 (Y 9) (Y 11)),qq 14 (.ld none (Y 13)),qm 7 14]) (Z (yr [qm 15 0,qm 16 7,qq 17 (.adr 4 (Y 15) (Y 16)),qq 18 (.ld (.some 4) (Y 17)),qq 8 (.alc 129 [(.int .i64 0),(S []),(.int .i64 0),(.bool false)]),qn (.st 4 (Y 8) (Y 18))]) (Z (yr [qq 19 (.fad 0 (Y 8)),qq 20 (.ld none (Y 19))]) (.blk 2 (Z (yr [qq 22 (yb .eql (Y 20) (ki 1)),qm 21 22]) (yd (Y 21) (Z (yr [qm 23 5,qq 24 (.bsl 5 [(.int .u8 0)] 1 [⟨0,⟨1,(yc (.int .u8 116))⟩⟩]),qq 25 (.raw (.call ⟨(.builtin .append),#[(Y 23),(Y 24)],#[65,65]⟩) 65),qm 5 25]) (Z (yr [qm 26 5,qq 27 (.fad 1 (Y 8)),qq 28 (.ld none (Y 27)),qq 29 (.lenS (Y 28)),qq 30 (yl 151 [(Y 26),(Y 29),(ki 10)]),qm 5 30]) (Z (yr [qm 31 5,qq 32 (.bsl 5 [(.int .u8 0)] 1 [⟨0,⟨1,(yc (.int .u8 58))⟩⟩]),qq 33 (.raw (.call ⟨(.builtin .append),#[(Y 31),(Y 32)],#[65,65]⟩) 65),qm 5 33]) (yr [qm 34 5,qq 35 (.fad 1 (Y 8)),qq 36 (.ld none (Y 35)),qq 37 (.raw (.call ⟨(.builtin .append),#[(Y 34),(Y 36)],#[65,9]⟩) 65),qm 5 37])))) (Z (yr [qq 39 (yb .eql (Y 20) (ki 2)),qm 38 39]) (yd (Y 38) (Z (yr [qm 40 5,qq 41 (.bsl 5 [(.int .u8 0)] 1 [⟨0,⟨1,(yc (.int .u8 105))⟩⟩]),qq 42 (.raw (.call ⟨(.builtin .append),#[(Y 40),(Y 41)],#[65,65]⟩) 65),qm 5 42]) (Z (yr [qm 43 5,qq 44 (.fad 2 (Y 8)),qq 45 (.ld none (Y 44)),qq 46 (yl 151 [(Y 43),(Y 45),(ki 10)]),qm 5 46]) (yr [qm 47 5,qq 48 (.bsl 5 [(.int .u8 0)] 1 [⟨0,⟨1,(yc (.int .u8 59))⟩⟩]),qq 49 (.raw (.call ⟨(.builtin .append),#[(Y 47),(Y 48)],#[65,65]⟩) 65),qm 5 49]))) (Z (yr [qq 51 (yb .eql (Y 20) (ki 3)),qm 50 51]) (yd (Y 50) (Z (yr [qm 52 5,qq 53 (.bsl 5 [(.int .u8 0)] 1 [⟨0,⟨1,(yc (.int .u8 98))⟩⟩]),qq 54 (.raw (.call ⟨(.builtin .append),#[(Y 52),(Y 53)],#[65,65]⟩) 65),qm 5 54]) (Z (yr [qm 55 5,qq 56 (.fad 3 (Y 8)),qq 57 (.ld none (Y 56)),qq 58 (yl 152 [(Y 55),(Y 57)]),qm 5 58]) (yr [qm 59 5,qq 60 (.bsl 5 [(.int .u8 0)] 1 [⟨0,⟨1,(yc (.int .u8 59))⟩⟩]),qq 61 (.raw (.call ⟨(.builtin .append),#[(Y 59),(Y 60)],#[65,65]⟩) 65),qm 5 61]))) yk))))))))))) (yr [qq 62 (yb .add (Y 11) (ki 1)),qm 11 62]))))
def c110:MC:=(Z (yr [qq 4 (.mv (yc (S [])))]) (Z (yr [qq 5 (.mv (yc (.slice none 0 0)))]) (Z (Z (yr [qm 9 1,qq 10 (.len (Y 9)),qq 11 (.mv (ki 0))]) (.blk 0 (.loop c110l1))) (Z (yr [qm 63 5,qq 64 (.b2s (Y 63)),qm 4 64]) .ret))))
theorem markv_spec {va vp:Value} {r:List Val} {ps:List Int} {w:World} (h0:Rd w eVal va r) (h1:Rd w eI vp ps) (hf:FineV r) (hp:FineP ps r.length) (hT:Tab w) :
 Pu Tryz.prog 110 #[va,vp] w (S (markM tailV r ps)):=by
 refine En 65 c110 Tryz.func110 ?_
 have hS:=Sep.start w
 have hbd:=h0.bd
 repeat' (first|(refine gO ?_;intro K hK)|(refine kP ?_;clear hK K)|(refine hK _ _ ?_ ?_<;>clear hK K)|(intro wd hxd;have hS:=Sep.xx hxd)|refine sA ?_|(refine bM ?_ ?_<;>intro hb hc<;>first|exact zxf|(simp only [hb];clear hb))|((first|refine zalc ?_|refine zbsl ?_|((with_reducible refine gBox ?_);refine zbox ?_));intro gb wb hS)|((with_reducible refine gSt ?_);refine zs2 ?_;intro wb hS)|(refine zcv ?_)|(refine G.cn ?_ ?_<;>intro hc<;>try exact zxf))
 have hS:=hS.nil 5 eU
 refine G.loop (fun u w'=>∃ (k:Nat) (lv:Value),k≤ps.length∧u 11=I k∧u 10=I ps.length∧u 9=vp∧u 0=va∧u 5=lv∧(markM tailV r (ps.take k)).length≤k * 2000000∧Sep w w' [accC lv 5 eU (markM tailV r (ps.take k))]) (fun u _=>ps.length - toN (u 11)) ?_ ?_
 ·exact ⟨0,.slice none 0 0,Nat.zero_le _,by exact sf,by exact sf,by exact sf,by exact sf,by exact sf,by simp [markM],hS⟩
 ·clear hS
  rintro u wl ⟨k,lv,hk,q11,q10,q9,q0,q5,hml,hS⟩ ih
  have hm:toN (u 11)=k:=by rw [q11];simp [toN]
  by_cases hlt:(k:Int) < ps.length
  ·have hst := mark_step tailV r ps k hlt
   have hpk:=hp.2 _ (getD_mem ps k hlt)
   generalize hpp:ps.getD k default=p at *
   have hfv:=fineV_at hf p hpk.1 hpk.2
   have htl:=tailV_len hfv
   have h10:=hp.1
   obtain ⟨hpk0,hpk1⟩:=hpk
   generalize hx:r.getD p.toNat default=x at *
   generalize hacc:markM tailV r (ps.take k)=acc at *
   obtain ⟨hv1,hv2,hv3⟩:=hfv
   have hit:=itoa_le x.n hv2 hv3
   have his:=itoa_le x.s.length zo zo
   have hab:=abool_len x.b
   by_cases e0:x.kind=0
   ·have hv:tailV x=[]:=by simp [tailV,e0]
    have h5:acc.length≤2000000000:=by omega
    (have fct:=(a7 @q11 @q10 @q9 @q0 @q5 @hpp @hx);repeat' (first|(refine gO ?_;intro K hK)|(refine kP ?_;clear hK K)|(refine hK _ _ ?_ ?_<;>clear hK K)|(intro wd hxd;have hS:=Sep.xx hxd)|refine sA ?_|(refine bM ?_ ?_<;>intro hb hc<;>first|exact zxf|(simp only [hb];clear hb))|((first|refine zalc ?_|refine zbsl ?_|((with_reducible refine gBox ?_);refine zbox ?_));intro gb wb hS)|((with_reducible refine gSt ?_);refine zs2 ?_;intro wb hS)|(refine zcv ?_)|(refine zap (y:=(116:UInt8)) ?_ (hy:=by rfl);intro vb wb hS)|(refine zap (y:=(58:UInt8)) ?_ (hy:=by rfl);intro vb wb hS)|(refine zap (y:=(105:UInt8)) ?_ (hy:=by rfl);intro vb wb hS)|(refine zap (y:=(59:UInt8)) ?_ (hy:=by rfl);intro vb wb hS)|(refine zap (y:=(98:UInt8)) ?_ (hy:=by rfl);intro vb wb hS)|(refine zap (y:=(110:UInt8)) ?_ (hy:=by rfl);intro vb wb hS)|(refine zas ?_ Tryz.underlying9;intro vb wb hS)|(refine G.cn ?_ ?_<;>intro hc<;>try exact zxf)))<;>(try clear fct)
    all_goals
     have hS2:∀ {w':World} {v:Value} {ys:Str} {L:List Chk},Sep w w' L→Sub [accC v 5 eU ys] L→ys=acc++tailV x→Sep w w' [accC v 5 eU (acc++tailV x)]:=fun h hs e=>e ▸ h.sub hs
     have fct:=(a5 @q11 @q10 @q9 @q0 @q5);refine ih _ _ ⟨k+1,_,by omega,by exact sf,by exact sf,by exact sf,by exact sf,by simp only [push_cast,↓reduceIte,zq1,zq2,zq3,zq4,zq5,q11,q10,q9,q0,q5];rfl,by rw [hst,List.length_append];omega,?_⟩ ?_
     ·rw [hst]
      refine hS2 hS zu ?_
      simp only [hv,List.append_assoc,List.append_nil,List.cons_append,List.nil_append]
     ·rw [hm];simp only [push_cast,↓reduceIte,zq1,zq2,zq3,zq4,zq5,toN_i,q11,q10,q9,q0,q5];omega
   ·by_cases e1:x.kind=1
    ·have hv:tailV x=[116]++Lib.itoa x.s.length++[58]++x.s:=by simp [tailW,tailV,e1]
     have h5:acc.length≤2000000000:=by omega
     (have fct:=(a7 @q11 @q10 @q9 @q0 @q5 @hpp @hx);repeat' (first|(refine gO ?_;intro K hK)|(refine kP ?_;clear hK K)|(refine hK _ _ ?_ ?_<;>clear hK K)|(intro wd hxd;have hS:=Sep.xx hxd)|refine sA ?_|(refine bM ?_ ?_<;>intro hb hc<;>first|exact zxf|(simp only [hb];clear hb))|((first|refine zalc ?_|refine zbsl ?_|((with_reducible refine gBox ?_);refine zbox ?_));intro gb wb hS)|((with_reducible refine gSt ?_);refine zs2 ?_;intro wb hS)|(refine zcv ?_)|(refine zap (y:=(116:UInt8)) ?_ (hy:=by rfl);intro vb wb hS)|(refine zap (y:=(58:UInt8)) ?_ (hy:=by rfl);intro vb wb hS)|(refine zap (y:=(105:UInt8)) ?_ (hy:=by rfl);intro vb wb hS)|(refine zap (y:=(59:UInt8)) ?_ (hy:=by rfl);intro vb wb hS)|(refine zap (y:=(98:UInt8)) ?_ (hy:=by rfl);intro vb wb hS)|(refine zap (y:=(110:UInt8)) ?_ (hy:=by rfl);intro vb wb hS)|(refine zas ?_ Tryz.underlying9;intro vb wb hS)|(refine zco 151 (ai_spec x.s.length zo zo hS zr zd hT (by simp only [lens];omega)) ?_;rintro vb wb hS)|(refine G.cn ?_ ?_<;>intro hc<;>try exact zxf)))<;>(try clear fct)
     all_goals
      have hS2:∀ {w':World} {v:Value} {ys:Str} {L:List Chk},Sep w w' L→Sub [accC v 5 eU ys] L→ys=acc++tailV x→Sep w w' [accC v 5 eU (acc++tailV x)]:=fun h hs e=>e ▸ h.sub hs
      have fct:=(a5 @q11 @q10 @q9 @q0 @q5);refine ih _ _ ⟨k+1,_,by omega,by exact sf,by exact sf,by exact sf,by exact sf,by simp only [push_cast,↓reduceIte,zq1,zq2,zq3,zq4,zq5,q11,q10,q9,q0,q5];rfl,by rw [hst,List.length_append];omega,?_⟩ ?_
      ·rw [hst]
       refine hS2 hS zu ?_
       simp only [hv,List.append_assoc,List.append_nil,List.cons_append,List.nil_append]
      ·rw [hm];simp only [push_cast,↓reduceIte,zq1,zq2,zq3,zq4,zq5,toN_i,q11,q10,q9,q0,q5];omega
    ·by_cases e2:x.kind=2
     ·have hv:tailV x=[105]++Lib.itoa x.n++[59]:=by simp [tailW,tailV,e2]
      have h5:acc.length≤2000000000:=by omega
      (have fct:=(a7 @q11 @q10 @q9 @q0 @q5 @hpp @hx);repeat' (first|(refine gO ?_;intro K hK)|(refine kP ?_;clear hK K)|(refine hK _ _ ?_ ?_<;>clear hK K)|(intro wd hxd;have hS:=Sep.xx hxd)|refine sA ?_|(refine bM ?_ ?_<;>intro hb hc<;>first|exact zxf|(simp only [hb];clear hb))|((first|refine zalc ?_|refine zbsl ?_|((with_reducible refine gBox ?_);refine zbox ?_));intro gb wb hS)|((with_reducible refine gSt ?_);refine zs2 ?_;intro wb hS)|(refine zcv ?_)|(refine zap (y:=(116:UInt8)) ?_ (hy:=by rfl);intro vb wb hS)|(refine zap (y:=(58:UInt8)) ?_ (hy:=by rfl);intro vb wb hS)|(refine zap (y:=(105:UInt8)) ?_ (hy:=by rfl);intro vb wb hS)|(refine zap (y:=(59:UInt8)) ?_ (hy:=by rfl);intro vb wb hS)|(refine zap (y:=(98:UInt8)) ?_ (hy:=by rfl);intro vb wb hS)|(refine zap (y:=(110:UInt8)) ?_ (hy:=by rfl);intro vb wb hS)|(refine zas ?_ Tryz.underlying9;intro vb wb hS)|(refine zco 151 (ai_spec x.n zo zo hS zr zd hT (by simp only [lens];omega)) ?_;rintro vb wb hS)|(refine G.cn ?_ ?_<;>intro hc<;>try exact zxf)))<;>(try clear fct)
      all_goals
       have hS2:∀ {w':World} {v:Value} {ys:Str} {L:List Chk},Sep w w' L→Sub [accC v 5 eU ys] L→ys=acc++tailV x→Sep w w' [accC v 5 eU (acc++tailV x)]:=fun h hs e=>e ▸ h.sub hs
       have fct:=(a5 @q11 @q10 @q9 @q0 @q5);refine ih _ _ ⟨k+1,_,by omega,by exact sf,by exact sf,by exact sf,by exact sf,by simp only [push_cast,↓reduceIte,zq1,zq2,zq3,zq4,zq5,q11,q10,q9,q0,q5];rfl,by rw [hst,List.length_append];omega,?_⟩ ?_
       ·rw [hst]
        refine hS2 hS zu ?_
        simp only [hv,List.append_assoc,List.append_nil,List.cons_append,List.nil_append]
       ·rw [hm];simp only [push_cast,↓reduceIte,zq1,zq2,zq3,zq4,zq5,toN_i,q11,q10,q9,q0,q5];omega
     ·by_cases e3:x.kind=3
      ·have hv:tailV x=[98]++(if x.b=true then [116,114,117,101] else [102,97,108,115,101])++[59]:=by simp [tailW,tailV,e3]
       have h5:acc.length≤2000000000:=by omega
       (have fct:=(a7 @q11 @q10 @q9 @q0 @q5 @hpp @hx);repeat' (first|(refine gO ?_;intro K hK)|(refine kP ?_;clear hK K)|(refine hK _ _ ?_ ?_<;>clear hK K)|(intro wd hxd;have hS:=Sep.xx hxd)|refine sA ?_|(refine bM ?_ ?_<;>intro hb hc<;>first|exact zxf|(simp only [hb];clear hb))|((first|refine zalc ?_|refine zbsl ?_|((with_reducible refine gBox ?_);refine zbox ?_));intro gb wb hS)|((with_reducible refine gSt ?_);refine zs2 ?_;intro wb hS)|(refine zcv ?_)|(refine zap (y:=(116:UInt8)) ?_ (hy:=by rfl);intro vb wb hS)|(refine zap (y:=(58:UInt8)) ?_ (hy:=by rfl);intro vb wb hS)|(refine zap (y:=(105:UInt8)) ?_ (hy:=by rfl);intro vb wb hS)|(refine zap (y:=(59:UInt8)) ?_ (hy:=by rfl);intro vb wb hS)|(refine zap (y:=(98:UInt8)) ?_ (hy:=by rfl);intro vb wb hS)|(refine zap (y:=(110:UInt8)) ?_ (hy:=by rfl);intro vb wb hS)|(refine zas ?_ Tryz.underlying9;intro vb wb hS)|(refine zco 152 (ab_spec x.b hS (by intro v';repeat constructor) (by simp only [lens];omega)) ?_;rintro vb wb hS)|(refine G.cn ?_ ?_<;>intro hc<;>try exact zxf)))<;>(try clear fct)
       all_goals
        have hS2:∀ {w':World} {v:Value} {ys:Str} {L:List Chk},Sep w w' L→Sub [accC v 5 eU ys] L→ys=acc++tailV x→Sep w w' [accC v 5 eU (acc++tailV x)]:=fun h hs e=>e ▸ h.sub hs
        have fct:=(a5 @q11 @q10 @q9 @q0 @q5);refine ih _ _ ⟨k+1,_,by omega,by exact sf,by exact sf,by exact sf,by exact sf,by simp only [push_cast,↓reduceIte,zq1,zq2,zq3,zq4,zq5,q11,q10,q9,q0,q5];rfl,by rw [hst,List.length_append];omega,?_⟩ ?_
        ·rw [hst]
         refine hS2 hS zu ?_
         simp only [hv,List.append_assoc,List.append_nil,List.cons_append,List.nil_append]
        ·rw [hm];simp only [push_cast,↓reduceIte,zq1,zq2,zq3,zq4,zq5,toN_i,q11,q10,q9,q0,q5];omega
      ·have hv:tailV x=[]:=by simp [tailW,tailV,e0,e1,e2,e3]
       have h5:acc.length≤2000000000:=by omega
       (have fct:=(a7 @q11 @q10 @q9 @q0 @q5 @hpp @hx);repeat' (first|(refine gO ?_;intro K hK)|(refine kP ?_;clear hK K)|(refine hK _ _ ?_ ?_<;>clear hK K)|(intro wd hxd;have hS:=Sep.xx hxd)|refine sA ?_|(refine bM ?_ ?_<;>intro hb hc<;>first|exact zxf|(simp only [hb];clear hb))|((first|refine zalc ?_|refine zbsl ?_|((with_reducible refine gBox ?_);refine zbox ?_));intro gb wb hS)|((with_reducible refine gSt ?_);refine zs2 ?_;intro wb hS)|(refine zcv ?_)|(refine zap (y:=(116:UInt8)) ?_ (hy:=by rfl);intro vb wb hS)|(refine zap (y:=(58:UInt8)) ?_ (hy:=by rfl);intro vb wb hS)|(refine zap (y:=(105:UInt8)) ?_ (hy:=by rfl);intro vb wb hS)|(refine zap (y:=(59:UInt8)) ?_ (hy:=by rfl);intro vb wb hS)|(refine zap (y:=(98:UInt8)) ?_ (hy:=by rfl);intro vb wb hS)|(refine zap (y:=(110:UInt8)) ?_ (hy:=by rfl);intro vb wb hS)|(refine zas ?_ Tryz.underlying9;intro vb wb hS)|(refine G.cn ?_ ?_<;>intro hc<;>try exact zxf)))<;>(try clear fct)
       all_goals
        have hS2:∀ {w':World} {v:Value} {ys:Str} {L:List Chk},Sep w w' L→Sub [accC v 5 eU ys] L→ys=acc++tailV x→Sep w w' [accC v 5 eU (acc++tailV x)]:=fun h hs e=>e ▸ h.sub hs
        have fct:=(a5 @q11 @q10 @q9 @q0 @q5);refine ih _ _ ⟨k+1,_,by omega,by exact sf,by exact sf,by exact sf,by exact sf,by simp only [push_cast,↓reduceIte,zq1,zq2,zq3,zq4,zq5,q11,q10,q9,q0,q5];rfl,by rw [hst,List.length_append];omega,?_⟩ ?_
        ·rw [hst]
         refine hS2 hS zu ?_
         simp only [hv,List.append_assoc,List.append_nil,List.cons_append,List.nil_append]
        ·rw [hm];simp only [push_cast,↓reduceIte,zq1,zq2,zq3,zq4,zq5,toN_i,q11,q10,q9,q0,q5];omega
  ·(have fct:=(a5 @q11 @q10 @q9 @q0 @q5);repeat' (first|(refine gO ?_;intro K hK)|(refine kP ?_;clear hK K)|(refine hK _ _ ?_ ?_<;>clear hK K)|(intro wd hxd;have hS:=Sep.xx hxd)|refine sA ?_|(refine bM ?_ ?_<;>intro hb hc<;>first|exact zxf|(simp only [hb];clear hb))|((first|refine zalc ?_|refine zbsl ?_|((with_reducible refine gBox ?_);refine zbox ?_));intro gb wb hS)|((with_reducible refine gSt ?_);refine zs2 ?_;intro wb hS)|(refine zcv ?_)|(refine G.cn ?_ ?_<;>intro hc<;>try exact zxf)))<;>(try clear fct)
   all_goals
    (have fct:=(a5 @q11 @q10 @q9 @q0 @q5);refine rM ?_)
    rw [List.take_of_length_le zo] at hS ⊢
    exact ⟨rfl,Sep.xt ‹_›⟩
end Go.Proofs.YtllanbmpacgigaaGreatDoor
