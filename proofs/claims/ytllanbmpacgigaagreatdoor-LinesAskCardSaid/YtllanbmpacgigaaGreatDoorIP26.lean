/- Texts of the proof, joined. -/
import Derived.Test.YtllanbmpacgigaaGreatDoorISw
import Derived.Test.YtllanbmpacgigaaGreatDoorIH06
namespace Go.Proofs.YtllanbmpacgigaaGreatDoor
open Operand renaming tmp→Y,const→yc
open MC renaming seq→Z,reg→yr,skip→yk,cond→yd
open MO renaming call→yl,bin→yb
open Nat renaming reduceAdd→zq1,reduceLeDiff→zq2,reduceEqDiff→zq3,reduceLT→zq4
open Int renaming reduceToNat→zq5
set_option linter.unusedSimpArgs false
set_option linter.unusedVariables false
open Go.RowKit
instance : EncSz eDl 3 := ⟨rfl⟩
theorem eDl_f (d:Dl):eDl.f d=[U d.dl,U d.q,I d.e]:=rfl
theorem eG_f (g:Gs):eG.f g=[U g.d.dl,U g.d.q,I g.d.e,I g.sc]:=rfl
def eDr:Enc Dl:=⟨3,fun d=>[I d.dl,I d.q,I d.e],fun _=>rfl⟩
instance : EncSz eDr 3 := ⟨rfl⟩
instance : Inhabited Dl := ⟨⟨0, 0, 0⟩⟩
def eB8:Enc Int:=⟨1,fun n=>[U n],fun _=>rfl⟩
instance : EncSz eB8 1 := ⟨rfl⟩
theorem eB8_f (n:Int):eB8.f n=[U n]:=rfl
theorem rd_of {α:Type} (E:Enc α) {w:World} {g n:Nat} {t:TypeId} (ys:List α) (h:Blk w g t (ys.flatMap E.f).toArray) (hn:n=ys.length) (hm:ys.length≤1000000) (h1:∀ u∈ys.flatMap E.f,One u):Rd w E (.slice (some ⟨g,0,none⟩) n n) ys :=
 blk_rd h hn (Nat.le_refl _) zo h1
def dlsL:List Int:=[44,59,9,124]
def qsL:List Int:=[34,39]
def esL:List Int:=[1,2,3]
def triedL:List Dl:=dlsL.flatMap fun a=>qsL.flatMap fun b=>esL.map fun c=>⟨a,b,c⟩
theorem tried_len:triedL.length=24:=by decide
theorem tried_step {k j i:Nat} (hk:k < 4) (hj:j < 2) (hi:i < 3):triedL.take (6 * k+3 * j+i)++[⟨dlsL.getD k default,qsL.getD j default,esL.getD i default⟩]=triedL.take (6 * k+3 * j+(i+1)):=by
 have:∀ k < 4,∀ j < 2,∀ i < 3,triedL.take (6 * k+3 * j+i)++[⟨dlsL.getD k default,qsL.getD j default,esL.getD i default⟩]=triedL.take (6 * k+3 * j+(i+1)):=by
  intro k hk j hj i hi
  match k,hk,j,hj,i,hi with
  | 0,_,0,_,0,_=>rfl
  | 0,_,0,_,1,_=>rfl
  | 0,_,0,_,2,_=>rfl
  | 0,_,1,_,0,_=>rfl
  | 0,_,1,_,1,_=>rfl
  | 0,_,1,_,2,_=>rfl
  | 1,_,0,_,0,_=>rfl
  | 1,_,0,_,1,_=>rfl
  | 1,_,0,_,2,_=>rfl
  | 1,_,1,_,0,_=>rfl
  | 1,_,1,_,1,_=>rfl
  | 1,_,1,_,2,_=>rfl
  | 2,_,0,_,0,_=>rfl
  | 2,_,0,_,1,_=>rfl
  | 2,_,0,_,2,_=>rfl
  | 2,_,1,_,0,_=>rfl
  | 2,_,1,_,1,_=>rfl
  | 2,_,1,_,2,_=>rfl
  | 3,_,0,_,0,_=>rfl
  | 3,_,0,_,1,_=>rfl
  | 3,_,0,_,2,_=>rfl
  | 3,_,1,_,0,_=>rfl
  | 3,_,1,_,1,_=>rfl
  | 3,_,1,_,2,_=>rfl
 exact this k hk j hj i hi
theorem tried_ix:∀ k,k < 24→ixD (triedL.getD k default)=k:=by decide
theorem tried_right:∀ d∈triedL,rightD d=true∧byD d:=by
 intro d hd
 have h:∀ d∈triedL,rightD d=true:=by decide
 have h2:∀ d∈triedL,(0≤d.dl∧d.dl≤255∧0≤d.q∧d.q≤255):=by decide
 exact ⟨h d hd,h2 d hd⟩
def alkF (w:Nat):List (List Str)→Nat
 | []=>0
 | r :: t=>if r.length=w then alkF w t+1 else 0
theorem alk_le (w:Nat):∀ t,alkF w t≤t.length
 | []=>Nat.le_refl _
 | r :: t=>by have:=alk_le w t;unfold alkF;split<;>simp;omega
theorem alk_at {w:Nat} {t:List (List Str)} {k:Nat} (hk:k < t.length) (h:(t.getD k []).length=w):alkF w (t.drop k)=alkF w (t.drop (k+1))+1:=by
 rw [List.drop_eq_getElem_cons hk]
 have e:(t[k]).length=w:=by rw [←h,List.getD_eq_getElem?_getD,List.getElem?_eq_getElem hk];rfl
 rw [alkF,if_pos e]
theorem alk_no {w:Nat} {t:List (List Str)} {k:Nat} (hk:k < t.length) (h:¬ (t.getD k []).length=w):alkF w (t.drop k)=0:=by
 rw [List.drop_eq_getElem_cons hk]
 have e:¬ (t[k]).length=w:=by intro e;apply h;rw [←e,List.getD_eq_getElem?_getD,List.getElem?_eq_getElem hk];rfl
 rw [alkF,if_neg e]
theorem alk_end {w:Nat} {t:List (List Str)} {k:Nat} (hk:t.length≤k):alkF w (t.drop k)=0:=by rw [List.drop_eq_nil_of_le hk];rfl
def scoreT (t:List (List Str)) (k:Int):Int :=
 if t.length=0∨(t.getD 0 []).length < 2 then 0
 else min (alkF (t.getD 0 []).length t:Int) 999+if k=0∧2≤t.length∧alkF (t.getD 0 []).length t=t.length then 1000000+1000 * ((t.getD 0 []).length:Int) else 0
def scoreM (d:Dl) (s:Str):Int:=scoreT ((parM d wideL s).rs.map Prod.fst) (parM d wideL s).k
def WdOK (t:List (List Str)) (k:Int):Prop:=k=0→((t.getD 0 []).length:Int)≤2147483648
theorem par_wd {d:Dl} (hr:rightD d=true) (s:Str):WdOK ((parM d wideL s).rs.map Prod.fst) (parM d wideL s).k:=fun hk=>by
 obtain ⟨h,_⟩:=par_ok hr fits_wide6 s hk
 by_cases h0:0 < ((parM d wideL s).rs.map Prod.fst).length
 ·exact (h 0 h0).2.1
 ·have:(parM d wideL s).rs.map Prod.fst=[]:=List.eq_nil_of_length_eq_zero zo
  rw [this];simp
theorem score_bd {t:List (List Str)} {k:Int} (h:WdOK t k):0≤scoreT t k∧scoreT t k≤2147485000000:=by
 unfold scoreT
 split
 ·omega
 ·have:=alk_le (t.getD 0 []).length t
  split
  ·rename_i h2;have:=h h2.1;omega
  ·omega
def gsL (s:Str):List Gs:=triedL.map fun d=>⟨d,scoreM d s⟩
theorem gs_len (s:Str):(gsL s).length=24:=by unfold gsL;rw [List.length_map];exact tried_len
theorem gs_at (s:Str) (k:Nat) (hk:k < 24):(gsL s).getD k default=⟨triedL.getD k default,scoreM (triedL.getD k default) s⟩:=by
 have:=tried_len
 unfold gsL
 rw [List.getD_eq_getElem?_getD,List.getElem?_map,List.getD_eq_getElem?_getD,List.getElem?_eq_getElem zo];rfl
theorem tried_mem (k:Nat) (hk:k < 24):triedL.getD k default∈triedL:=getD_mem _ _ (by have:=tried_len;omega)
theorem score_d (s:Str) {d:Dl} (hd:d∈triedL):0≤scoreM d s∧scoreM d s≤2147485000000:=score_bd (par_wd (tried_right d hd).1 s)
theorem gs_bd (s:Str):BdG (gsL s):=.of (by rw [gs_len];decide) fun g hg=>by
 obtain ⟨d,hd,rfl⟩:=List.mem_map.1 hg
 have:=score_d s hd
 exact ⟨this.1,by show scoreM d s≤_;omega⟩
theorem gs_ix (s:Str):∀ i j,i < j→j < 24→gix ((gsL s).getD i default) < gix ((gsL s).getD j default):=fun i j h1 h2=>by
 rw [gs_at s i zo,gs_at s j h2]
 show ixD _ < ixD _
 rw [tried_ix i zo,tried_ix j h2];exact h1
def IsBest (s:Str) (g:Gs):Prop:=g∈gsL s∧∀ h∈gsL s,h=g∨Bef gsc gix g h
theorem best_of {s:Str} {ys:List Gs} (h:MgPost gsc gix 0 24 (gsL s) ys):IsBest s (ys.getD 0 default):=by
 have hl:=h.kept.len
 rw [gs_len] at hl
 refine ⟨h.kept.perm.mem_iff.1 (getD_mem _ _ zo),fun x hx=>?_⟩
 obtain ⟨j,hj,e⟩:=List.getElem_of_mem (h.kept.perm.mem_iff.2 hx)
 have e2:ys.getD j default=x:=by rw [List.getD_eq_getElem?_getD,List.getElem?_eq_getElem hj];exact e
 rcases Nat.eq_zero_or_pos j with h0|h0
 ·subst h0;exact .inl e2.symm
 ·exact .inr (by rw [←e2];exact h.ord 0 j (Nat.le_refl _) h0 zo)
theorem best_one {s:Str} {g h:Gs} (hg:IsBest s g) (hh:IsBest s h):g=h:=by
 rcases hg.2 h hh.1 with e|e
 ·exact e.symm
 ·rcases hh.2 g hg.1 with e2|e2
  ·exact e2
  ·exfalso;unfold Bef at e e2;omega
def RB (s:Str) (k at':Nat) (most:Int):Prop:=(most=0∧at'=0∧∀ j,j < k→scoreM (triedL.getD j default) s=0) ∨
 (at' < k∧most=scoreM (triedL.getD at' default) s∧0 < most∧∀ j,j < k→scoreM (triedL.getD j default) s≤most∧(scoreM (triedL.getD j default) s=most→at'≤j))
theorem RB.zero (s:Str):RB s 0 0 0:=.inl ⟨rfl,rfl,fun j h=>by omega⟩
theorem RB.up {s:Str} {k at':Nat} {most:Int} (h:RB s k at' most) (hk:k < 24) (hg:most < scoreM (triedL.getD k default) s):RB s (k+1) k (scoreM (triedL.getD k default) s):=by
 refine .inr ⟨by omega,rfl,?_,fun j hj=>?_⟩
 ·rcases h with ⟨h1,_,_⟩|⟨_,_,h3,_⟩<;>omega
 ·rcases Nat.lt_or_ge j k with h'|h'
  ·rcases h with ⟨h1,_,h3⟩|⟨_,_,h3,h4⟩
   ·have:=h3 j h';omega
   ·have:=(h4 j h').1;omega
  ·have:j=k:=by omega
   subst this;omega
theorem RB.on {s:Str} {k at':Nat} {most:Int} (h:RB s k at' most) (hk:k < 24) (hg:¬ most < scoreM (triedL.getD k default) s):RB s (k+1) at' most:=by
 have h0:=score_d s (tried_mem k hk)
 rcases h with ⟨h1,h2,h3⟩|⟨h1,h2,h3,h4⟩
 ·refine .inl ⟨h1,h2,fun j hj=>?_⟩
  rcases Nat.lt_or_ge j k with h'|h'
  ·exact h3 j h'
  ·have:j=k:=by omega
   subst this;omega
 ·refine .inr ⟨by omega,h2,h3,fun j hj=>?_⟩
  rcases Nat.lt_or_ge j k with h'|h'
  ·exact h4 j h'
  ·have:j=k:=by omega
   subst this;omega
attribute [local irreducible] SemK UnitK StK AlcK BslK CallK CallV Instr.box Builtin.append_ Instr.makeSlice Instr.makeMap Instr.lookup Instr.mapUpdate Instr.sliceAt convert
theorem isL_sl {a:Option Addr} {n c:Nat}:isL (.slice a n c)=True:=rfl
theorem lenV_sl {a:Option Addr} {n c:Nat}:lenV (.slice a n c)=I (n:Int):=rfl
def c187l1:MC:=(Z (yr [qq 23 (yb .lss (Y 22) (Y 21))]) (Z (yd (Y 23) yk (.exit 4)) (Z (.blk 5 (Z (yr [qq 24 (.adr 1 (Y 20) (Y 22)),qq 25 (.ld none (Y 24)),qm 7 25]) (yr [qm 26 1,qm 27 3,qm 28 5,qm 29 7,qq 30 (.bld [(.int .u8 0),(.int .u8 0),(.int .i64 0)] [⟨0,⟨1,(Y 27)⟩⟩,⟨1,⟨1,(Y 28)⟩⟩,⟨2,⟨1,(Y 29)⟩⟩]),qq 31 (.bsl 39 [(.int .u8 0),(.int .u8 0),(.int .i64 0)] 1 [⟨0,⟨3,(Y 30)⟩⟩]),qq 32 (.raw (.call ⟨(.builtin .append),#[(Y 26),(Y 31)],#[247,247]⟩) 247),qm 1 32]))) (yr [qq 33 (yb .add (Y 22) (ki 1)),qm 22 33]))))
def c187l2:MC:=(Z (yr [qq 17 (yb .lss (Y 16) (Y 15))]) (Z (yd (Y 17) yk (.exit 2)) (Z (.blk 3 (Z (yr [qq 18 (.adr 1 (Y 14) (Y 16)),qq 19 (.ld none (Y 18)),qm 5 19]) (Z (yr [qq 20 (.bsl 3 [(.int .i64 0),(.int .i64 0),(.int .i64 0)] 3 [⟨0,⟨1,(ki 1)⟩⟩,⟨1,⟨1,(ki 2)⟩⟩,⟨2,⟨1,(ki 3)⟩⟩]),qq 21 (.len (Y 20)),qq 22 (.mv (ki 0))]) (.blk 4 (.loop c187l1))))) (yr [qq 34 (yb .add (Y 16) (ki 1)),qm 16 34]))))
def c187l3:MC:=(Z (yr [qq 11 (yb .lss (Y 10) (Y 9))]) (Z (yd (Y 11) yk (.exit 0)) (Z (.blk 1 (Z (yr [qq 12 (.adr 1 (Y 8) (Y 10)),qq 13 (.ld none (Y 12)),qm 3 13]) (Z (yr [qq 14 (.bsl 5 [(.int .u8 0),(.int .u8 0)] 2 [⟨0,⟨1,(yc (.int .u8 34))⟩⟩,⟨1,⟨1,(yc (.int .u8 39))⟩⟩]),qq 15 (.len (Y 14)),qq 16 (.mv (ki 0))]) (.blk 2 (.loop c187l2))))) (yr [qq 35 (yb .add (Y 10) (ki 1)),qm 10 35]))))
def c187:MC:=(.seq (.reg [qq 0 (.mv (.const (.slice none 0 0)))]) (.seq (.reg [qq 1 (.mv (.const (.slice none 0 0)))]) (.seq (.seq (.reg [qq 8 (.bsl 5 [(.int .u8 0),(.int .u8 0),(.int .u8 0),(.int .u8 0)] 4 [⟨0,⟨1,(.const (.int .u8 44))⟩⟩,⟨1,⟨1,(.const (.int .u8 59))⟩⟩,⟨2,⟨1,(.const (.int .u8 9))⟩⟩,⟨3,⟨1,(.const (.int .u8 124))⟩⟩]),qq 9 (.len (.tmp 8)),qq 10 (.mv (ki 0))]) (.blk 0 (.loop c187l3))) (.seq (.reg [qm 36 1,qm 0 36]) .ret))))
set_option maxHeartbeats 1000000 in
theorem tried_spec (w:World):Ret Tryz.prog 187 #[] w fun res w'=>Sep w w' [accC res 39 eDl triedL]:=by
 refine En 37 c187 Tryz.func187 ?_
 have hS:=(Sep.start w).nil 39 eDl
 have htl:=tried_len
 (have fct:=(aI @isL_sl @lenV_sl);repeat' (first|(refine gO ?_;intro K hK)|(refine kP ?_;clear hK K)|(refine hK _ _ ?_ ?_<;>clear hK K)|(intro wd hxd;have hS:=Sep.xx hxd)|refine sA ?_|(refine bM ?_ ?_<;>intro hb hc<;>first|exact zxf|(simp only [hb];clear hb))|((first|refine zalc ?_|refine zbsl ?_|((with_reducible refine gBox ?_);refine zbox ?_));intro gb wb hS)|((with_reducible refine gSt ?_);refine zs2 ?_;intro wb hS)|(refine G.cn ?_ ?_<;>intro hc<;>try exact zxf)))<;>(try clear fct)
 refine G.loop (fun r w'=>∃ (k g1:Nat) (l:Value),k≤4∧r 1=l∧r 8=.slice (some ⟨g1,0,none⟩) 4 4∧r 9=I 4∧r 10=I k∧Sep w w' [accC l 39 eDl (triedL.take (6 * k)),boxC g1 5 [U 44,U 59,U 9,U 124]]) (fun r _=>4 - toN (r 10)) ?_ ?_
 ·exact ⟨0,_,_,by omega,by exact sf,by exact sf,by exact sf,by exact sf,(Sep.sub hS zu)⟩
 ·clear hS
  rintro u wl ⟨k,g1,l,hk,q1,q8,q9,q10,hS⟩ ih
  have hm:toN (u 10)=k:=by rw [q10];simp [toN]
  by_cases hlt:(k:Int) < 4
  ·have hr1 : Rd wl eB8 (.slice (some ⟨g1,0,none⟩) 4 4) dlsL:=rd_of eB8 dlsL (Sep.blk hS (.t .h)) rfl zd (by simp [dlsL,eB8,one_i])
   have hl1:dlsL.length=4:=rfl
   (have fct:=(a7 @q1 @q8 @q9 @q10 @eB8_f @isL_sl @lenV_sl);repeat' (first|(refine gO ?_;intro K hK)|(refine kP ?_;clear hK K)|(refine hK _ _ ?_ ?_<;>clear hK K)|(intro wd hxd;have hS:=Sep.xx hxd)|refine sA ?_|(refine bM ?_ ?_<;>intro hb hc<;>first|exact zxf|(simp only [hb];clear hb))|((first|refine zalc ?_|refine zbsl ?_|((with_reducible refine gBox ?_);refine zbox ?_));intro gb wb hS)|((with_reducible refine gSt ?_);refine zs2 ?_;intro wb hS)|(refine G.cn ?_ ?_<;>intro hc<;>try exact zxf)))<;>(try clear fct)
   refine G.loop (fun r w'=>∃ (j g2:Nat) (l:Value),j≤2∧r 1=l∧r 3=U (dlsL.getD k default)∧r 8=.slice (some ⟨g1,0,none⟩) 4 4∧r 9=I 4∧r 10=I k∧r 14=.slice (some ⟨g2,0,none⟩) 2 2∧r 15=I 2∧r 16=I j∧Sep w w' [accC l 39 eDl (triedL.take (6 * k+3 * j)),boxC g1 5 [U 44,U 59,U 9,U 124],boxC g2 5 [U 34,U 39]]) (fun r _=>2 - toN (r 16)) ?_ ?_
   ·have fct:=(a4 @q1 @q8 @q9 @q10);exact ⟨0,_,_,by omega,by exact sf,by exact sf,by exact sf,by exact sf,by exact sf,by exact sf,by exact sf,by exact sf,(Sep.sub hS zu)⟩
   ·clear hS q1 q8 q9 q10
    rintro u2 wl2 ⟨j,g2,l,hj,q1,q3,q8,q9,q10,q14,q15,q16,hS⟩ ih2
    have hm2:toN (u2 16)=j:=by rw [q16];simp [toN]
    by_cases hlt2:(j:Int) < 2
    ·have hr2:Rd wl2 eB8 (.slice (some ⟨g2,0,none⟩) 2 2) qsL:=rd_of eB8 qsL (Sep.blk hS (.t (.t .h))) rfl zd (by simp [qsL,eB8,one_i])
     have hl2:qsL.length=2:=rfl
     (have fct:=(a11 @q1 @q3 @q8 @q9 @q10 @q14 @q15 @q16 @eB8_f @isL_sl @lenV_sl);repeat' (first|(refine gO ?_;intro K hK)|(refine kP ?_;clear hK K)|(refine hK _ _ ?_ ?_<;>clear hK K)|(intro wd hxd;have hS:=Sep.xx hxd)|refine sA ?_|(refine bM ?_ ?_<;>intro hb hc<;>first|exact zxf|(simp only [hb];clear hb))|((first|refine zalc ?_|refine zbsl ?_|((with_reducible refine gBox ?_);refine zbox ?_));intro gb wb hS)|((with_reducible refine gSt ?_);refine zs2 ?_;intro wb hS)|(refine G.cn ?_ ?_<;>intro hc<;>try exact zxf)))<;>(try clear fct)
     refine G.loop (fun r w'=>∃ (i g3:Nat) (l:Value),i≤3∧r 1=l∧r 3=U (dlsL.getD k default)∧r 5=U (qsL.getD j default)∧r 8=.slice (some ⟨g1,0,none⟩) 4 4∧r 9=I 4∧r 10=I k∧r 14=.slice (some ⟨g2,0,none⟩) 2 2∧r 15=I 2∧r 16=I j∧r 20=.slice (some ⟨g3,0,none⟩) 3 3∧r 21=I 3∧r 22=I i ∧
      Sep w w' [accC l 39 eDl (triedL.take (6 * k+3 * j+i)),boxC g1 5 [U 44,U 59,U 9,U 124],boxC g2 5 [U 34,U 39],boxC g3 3 [I 1,I 2,I 3]]) (fun r _=>3 - toN (r 22)) ?_ ?_
     ·have fct:=(a8 @q1 @q3 @q8 @q9 @q10 @q14 @q15 @q16);exact ⟨0,_,_,by omega,by exact sf,by exact sf,by exact sf,by exact sf,by exact sf,by exact sf,by exact sf,by exact sf,by exact sf,by exact sf,by exact sf,by exact sf,(Sep.sub hS zu)⟩
     ·clear hS q1 q3 q8 q9 q10 q14 q15 q16
      rintro u3 wl3 ⟨i,g3,l,hi,q1,q3,q5,q8,q9,q10,q14,q15,q16,q20,q21,q22,hS⟩ ih3
      have hm3:toN (u3 22)=i:=by rw [q22];simp [toN]
      by_cases hlt3:(i:Int) < 3
      ·have hr3:Rd wl3 eI (.slice (some ⟨g3,0,none⟩) 3 3) esL:=rd_of eI esL (Sep.blk hS (.t (.t (.t .h)))) rfl zd (by simp [esL,eI,one_i])
       have hl3:esL.length=3:=rfl
       have hst:=tried_step (k:=k) (j:=j) (i:=i) zo zo zo
       (have fct:=(a12 @q1 @q3 @q5 @q8 @q9 @q10 @q14 @q15 @q16 @q20 @q21 @q22);repeat' (first|(refine gO ?_;intro K hK)|(refine kP ?_;clear hK K)|(refine hK _ _ ?_ ?_<;>clear hK K)|(intro wd hxd;have hS:=Sep.xx hxd)|refine sA ?_|(refine bM ?_ ?_<;>intro hb hc<;>first|exact zxf|(simp only [hb];clear hb))|((first|refine zalc ?_|refine zbsl ?_|((with_reducible refine gBox ?_);refine zbox ?_));intro gb wb hS)|((with_reducible refine gSt ?_);refine zs2 ?_;intro wb hS)|(refine zap (y:=(⟨dlsL.getD k default,qsL.getD j default,esL.getD i default⟩:Dl)) ?_ (hy:=by rfl);intro vb wb hS)|(refine G.cn ?_ ?_<;>intro hc<;>try exact zxf)))<;>(try clear fct)
       all_goals
        rw [hst] at hS
        have fct:=(a12 @q1 @q3 @q5 @q8 @q9 @q10 @q14 @q15 @q16 @q20 @q21 @q22);refine ih3 _ _ ⟨i+1,g3,_,by omega,by exact sf,by exact sf,by exact sf,by exact sf,by exact sf,by exact sf,by exact sf,by exact sf,by exact sf,by exact sf,by exact sf,by exact sf,(Sep.sub hS zu)⟩ ?_
        rw [hm3];simp only [push_cast,↓reduceIte,zq1,zq2,zq3,zq4,zq5,toN_i,q1,q3,q5,q8,q9,q10,q14,q15,q16,q20,q21,q22];omega
      ·have ei:i=3:=by omega
       subst ei
       (have fct:=(a12 @q1 @q3 @q5 @q8 @q9 @q10 @q14 @q15 @q16 @q20 @q21 @q22);repeat' (first|(refine gO ?_;intro K hK)|(refine kP ?_;clear hK K)|(refine hK _ _ ?_ ?_<;>clear hK K)|(intro wd hxd;have hS:=Sep.xx hxd)|refine sA ?_|(refine bM ?_ ?_<;>intro hb hc<;>first|exact zxf|(simp only [hb];clear hb))|((first|refine zalc ?_|refine zbsl ?_|((with_reducible refine gBox ?_);refine zbox ?_));intro gb wb hS)|((with_reducible refine gSt ?_);refine zs2 ?_;intro wb hS)|(refine G.cn ?_ ?_<;>intro hc<;>try exact zxf)))<;>(try clear fct)
       all_goals
        have fct:=(a12 @q1 @q3 @q5 @q8 @q9 @q10 @q14 @q15 @q16 @q20 @q21 @q22);refine ih2 _ _ ⟨j+1,g2,_,by omega,by exact sf,by exact sf,by exact sf,by exact sf,by exact sf,by exact sf,by exact sf,by exact sf,by rw [show 6 * k+3 * (j+1)=6 * k+3 * j+3 from by omega];exact (Sep.sub hS zu)⟩ ?_
        rw [hm2];simp only [push_cast,↓reduceIte,zq1,zq2,zq3,zq4,zq5,toN_i,q1,q3,q5,q8,q9,q10,q14,q15,q16,q20,q21,q22];omega
    ·have ej:j=2:=by omega
     subst ej
     (have fct:=(a8 @q1 @q3 @q8 @q9 @q10 @q14 @q15 @q16);repeat' (first|(refine gO ?_;intro K hK)|(refine kP ?_;clear hK K)|(refine hK _ _ ?_ ?_<;>clear hK K)|(intro wd hxd;have hS:=Sep.xx hxd)|refine sA ?_|(refine bM ?_ ?_<;>intro hb hc<;>first|exact zxf|(simp only [hb];clear hb))|((first|refine zalc ?_|refine zbsl ?_|((with_reducible refine gBox ?_);refine zbox ?_));intro gb wb hS)|((with_reducible refine gSt ?_);refine zs2 ?_;intro wb hS)|(refine G.cn ?_ ?_<;>intro hc<;>try exact zxf)))<;>(try clear fct)
     all_goals
      have fct:=(a8 @q1 @q3 @q8 @q9 @q10 @q14 @q15 @q16);refine ih _ _ ⟨k+1,g1,_,by omega,by exact sf,by exact sf,by exact sf,by exact sf,by rw [show 6 * (k+1)=6 * k+3 * 2 from by omega];exact (Sep.sub hS zu)⟩ ?_
      rw [hm];simp only [push_cast,↓reduceIte,zq1,zq2,zq3,zq4,zq5,toN_i,q1,q3,q8,q9,q10,q14,q15,q16];omega
  ·have ek:k=4:=by omega
   subst ek
   have et:triedL.take (6 * 4)=triedL:=rfl
   rw [et] at hS
   (have fct:=(a4 @q1 @q8 @q9 @q10);repeat' (first|(refine gO ?_;intro K hK)|(refine kP ?_;clear hK K)|(refine hK _ _ ?_ ?_<;>clear hK K)|(intro wd hxd;have hS:=Sep.xx hxd)|refine sA ?_|(refine bM ?_ ?_<;>intro hb hc<;>first|exact zxf|(simp only [hb];clear hb))|((first|refine zalc ?_|refine zbsl ?_|((with_reducible refine gBox ?_);refine zbox ?_));intro gb wb hS)|((with_reducible refine gSt ?_);refine zs2 ?_;intro wb hS)|(refine G.cn ?_ ?_<;>intro hc<;>try exact zxf)))<;>(try clear fct)
   (have fct:=(a4 @q1 @q8 @q9 @q10);refine rM ?_)
   exact (Sep.sub hS zu)
def c188l1:MC:=(Z (yr [qq 43 (yb .lss (Y 42) (Y 41))]) (Z (yd (Y 43) yk (.exit 0)) (Z (.blk 1 (Z (yr [qq 44 (.adr 1 (Y 40) (Y 42)),qq 45 (.ld none (Y 44)),qm 12 45]) (Z (Z (yr [qm 46 12,qq 47 (.len (Y 46)),qm 48 9,qq 49 (yb .neq (Y 47) (Y 48))]) (yd (Y 49) (.exit 0) yk)) (yr [qm 50 10,qq 51 (yb .add (Y 50) (ki 1)),qm 10 51])))) (yr [qq 52 (yb .add (Y 42) (ki 1)),qm 42 52]))))
def c188:MC:=(Z (yr [qq 2 (.raw (.box 39 (Y 0)) 0),qq 4 (.mv (ki 0)),qq 5 (.mv (ki 0))]) (Z (Z (yr [qq 14 (.ld (.some 3) (Y 2)),qq 15 (yl 85 [(Y 14)]),qm 6 15]) (Z (yr [qm 16 6,qq 17 (yb .neq (Y 16) (ki 0))]) (yd (Y 17) (Z (yr [qm 18 6,qq 4 (.mv (ki 0)),qm 5 18]) .ret) yk))) (Z (.drg [qq 20 (.ld (.some 3) (Y 2)),qq 21 (yl 72 []),qm 22 1,qq 23 (yl 38 [(Y 20),(Y 21),(Y 22)]),qm 19 23,qq 24 (.ext 0 (Y 19)),qq 25 (.ext 1 (Y 19)),qq 8 (.alc 77 [(.int .i64 0),(.int .i64 0)]),qm 7 24,qn (.st 2 (Y 8) (Y 25))] (.some (.br [qm 22 1] (.br [qq 20 (.ld (.some 3) (Y 2))] (.br [qq 21 (yl 72 [])] (.leaf [qq 23 (yl 38 [(Y 20),(Y 21),(Y 22)]),qm 19 23,qq 24 (.ext 0 (Y 19)),qq 25 (.ext 1 (Y 19)),qq 8 (.alc 77 [(.int .i64 0),(.int .i64 0)]),qm 7 24,qn (.st 2 (Y 8) (Y 25))]) (.leaf [qq 8 (.alc 77 [(.int .i64 0),(.int .i64 0)]),qq 23 (yl 38 [(Y 20),(Y 21),(Y 22)]),qm 19 23,qq 24 (.ext 0 (Y 19)),qq 25 (.ext 1 (Y 19)),qm 7 24,qn (.st 2 (Y 8) (Y 25))])) (.leaf [qq 8 (.alc 77 [(.int .i64 0),(.int .i64 0)]),qq 21 (yl 72 []),qq 23 (yl 38 [(Y 20),(Y 21),(Y 22)]),qm 19 23,qq 24 (.ext 0 (Y 19)),qq 25 (.ext 1 (Y 19)),qm 7 24,qn (.st 2 (Y 8) (Y 25))])) (.br [] (.br [qq 21 (yl 72 [])] (.br [qq 20 (.ld (.some 3) (Y 2))] (.leaf [qq 23 (yl 38 [(Y 20),(Y 21),(Y 22)]),qm 19 23,qq 24 (.ext 0 (Y 19)),qq 25 (.ext 1 (Y 19)),qq 8 (.alc 77 [(.int .i64 0),(.int .i64 0)]),qm 7 24,qn (.st 2 (Y 8) (Y 25))]) (.leaf [qq 8 (.alc 77 [(.int .i64 0),(.int .i64 0)]),qq 23 (yl 38 [(Y 20),(Y 21),(Y 22)]),qm 19 23,qq 24 (.ext 0 (Y 19)),qq 25 (.ext 1 (Y 19)),qm 7 24,qn (.st 2 (Y 8) (Y 25))])) (.leaf [qq 8 (.alc 77 [(.int .i64 0),(.int .i64 0)]),qq 20 (.ld (.some 3) (Y 2)),qq 23 (yl 38 [(Y 20),(Y 21),(Y 22)]),qm 19 23,qq 24 (.ext 0 (Y 19)),qq 25 (.ext 1 (Y 19)),qm 7 24,qn (.st 2 (Y 8) (Y 25))])) (.br [qq 8 (.alc 77 [(.int .i64 0),(.int .i64 0)])] (.leaf [qq 20 (.ld (.some 3) (Y 2)),qq 21 (yl 72 []),qq 23 (yl 38 [(Y 20),(Y 21),(Y 22)]),qm 19 23,qq 24 (.ext 0 (Y 19)),qq 25 (.ext 1 (Y 19)),qm 7 24,qn (.st 2 (Y 8) (Y 25))]) (.leaf [qq 21 (yl 72 []),qq 20 (.ld (.some 3) (Y 2)),qq 23 (yl 38 [(Y 20),(Y 21),(Y 22)]),qm 19 23,qq 24 (.ext 0 (Y 19)),qq 25 (.ext 1 (Y 19)),qm 7 24,qn (.st 2 (Y 8) (Y 25))])))))) (Z (Z (yr [qm 26 7,qq 27 (.len (Y 26)),qq 28 (yb .eql (Y 27) (ki 0)),qm 29 28,qmf 29 30 7,qf 29 31 (.adr 1 (Y 30) (ki 0)),qf 29 32 (.ld none (Y 31)),qf 29 33 (.len (Y 32)),qf 29 34 (yb .lss (Y 33) (ki 2)),qq 35 (.pick (Y 29) (kb true) (Y 34))]) (yd (Y 35) (Z (yr [qq 4 (.mv (ki 0)),qq 5 (.mv (ki 0))]) .ret) yk)) (Z (yr [qm 36 7,qq 37 (.adr 1 (Y 36) (ki 0)),qq 38 (.ld none (Y 37)),qq 39 (.len (Y 38)),qm 9 39]) (Z (yr [qq 10 (.mv (ki 0))]) (Z (Z (yr [qm 40 7,qq 41 (.len (Y 40)),qq 42 (.mv (ki 0))]) (.blk 0 (.loop c188l1))) (Z (yr [qm 53 10,qq 54 (.raw (.call ⟨(.builtin .min),#[(Y 53),(ki 999)],#[3,3]⟩) 3),qm 13 54]) (Z (Z (yr [qq 55 (.fad 0 (Y 8)),qq 56 (.ld none (Y 55)),qq 57 (yb .eql (Y 56) (ki 0)),qm 58 57,qmt 58 59 7,qt 58 60 (.len (Y 59)),qt 58 61 (yb .geq (Y 60) (ki 2)),qq 62 (.pick (Y 58) (Y 61) (kb false)),qm 63 62,qmt 63 64 10,qmt 63 65 7,qt 63 66 (.len (Y 65)),qt 63 67 (yb .eql (Y 64) (Y 66)),qq 68 (.pick (Y 63) (Y 67) (kb false))]) (yd (Y 68) (yr [qm 69 13,qm 70 9,qq 71 (yb .mul (ki 1000) (Y 70)),qq 72 (yb .add (ki 1000000) (Y 71)),qq 73 (yb .add (Y 69) (Y 72)),qm 13 73]) yk)) (Z (yr [qm 74 13,qm 4 74,qq 5 (.mv (ki 0))]) .ret))))))))))
def scC (T:MC):MC:=match c188 with
 | .seq a (.seq b (.seq c _))=>.seq a (.seq b (.seq c T))
 | x=>x
def scT:MC:=match c188 with
 | .seq _ (.seq _ (.seq _ t))=>t
 | x=>x
def scC2 (T:MC):MC:=match scT with
 | .seq b (.seq c (.seq d (.seq l _)))=>.seq b (.seq c (.seq d (.seq l T)))
 | x=>x
def scT2:MC:=match scT with
 | .seq _ (.seq _ (.seq _ (.seq _ t)))=>t
 | x=>x
theorem sc_eq:c188=scC scT:=by rfl
theorem sc_eq2:scT=scC2 scT2:=by rfl
section
variable {v:Value} {vs:List Value} {t:List (List Str)} {kk aa:Int} {g8:Nat} {w w0:World}
theorem sc_t2 {n:Nat} {ρ:Fr} {R:Value→World→Prop} {k wd:Nat} (q7:ρ 7=v) (q8:ρ 8=.pointer (some ⟨g8,0,none⟩)) (q9:ρ 9=I wd) (q10:ρ 10=I k) (hk:k≤t.length) (hvl:vs.length=t.length) (hvb:(vs.length:Int)≤1000000) (hw:kk=0→(wd:Int)≤2147483648)
 (hS:Sep w0 w [boxC g8 77 [I kk,I aa],accC v 22 eV vs,frzC eS vs t])
 (hR:∀ w',Ext w0 w'→R (.tuple #[I (min (k:Int) 999+if kk=0∧2≤t.length∧k=t.length then 1000000+1000 * (wd:Int) else 0),I 0]) w') :
 G Tryz.prog Tryz.f188 n [.c scT2] R ρ w:=by
 unfold scT2 scT c188
 dsimp only
 by_cases hc0:kk=0∧2≤t.length∧k=t.length
 ·obtain ⟨e1,e2,e3⟩:=hc0
  rw [if_pos ⟨e1,e2,e3⟩] at hR
  have hw2:=hw e1
  (have fct:=(a4 @q7 @q8 @q9 @q10);repeat' (first|(refine gO ?_;intro K hK)|(refine kP ?_;clear hK K)|(refine hK _ _ ?_ ?_<;>clear hK K)|(intro wd hxd;have hS:=Sep.xx hxd)|refine sA ?_|(refine bM ?_ ?_<;>intro hb hc<;>first|exact zxf|(simp only [hb];clear hb))|((first|refine zalc ?_|((with_reducible refine gBox ?_);refine zbox ?_));intro gb wb hS)|((with_reducible refine gSt ?_);refine zs2 ?_;intro wb hS)|(refine G.cn ?_ ?_<;>intro hc<;>try exact zxf)))<;>(try clear fct)
  all_goals
   (have fct:=(a4 @q7 @q8 @q9 @q10);refine rM ?_)
   exact hR _ (Sep.xt ‹_›)
 ·rw [if_neg hc0,Int.add_zero] at hR
  (have fct:=(a4 @q7 @q8 @q9 @q10);repeat' (first|(refine gO ?_;intro K hK)|(refine kP ?_;clear hK K)|(refine hK _ _ ?_ ?_<;>clear hK K)|(intro wd hxd;have hS:=Sep.xx hxd)|refine sA ?_|(refine bM ?_ ?_<;>intro hb hc<;>first|exact zxf|(simp only [hb];clear hb))|((first|refine zalc ?_|((with_reducible refine gBox ?_);refine zbox ?_));intro gb wb hS)|((with_reducible refine gSt ?_);refine zs2 ?_;intro wb hS)|(refine G.cn ?_ ?_<;>intro hc<;>try exact zxf)))<;>(try clear fct)
  all_goals first
   | (exfalso;omega)
   | ((have fct:=(a4 @q7 @q8 @q9 @q10);refine rM ?_);exact hR _ (Sep.xt ‹_›))
theorem sc_t {n:Nat} {ρ:Fr} {R:Value→World→Prop} (q7:ρ 7=v) (q8:ρ 8=.pointer (some ⟨g8,0,none⟩)) (hvl:vs.length=t.length) (hvb:(vs.length:Int)≤1000000) (hw:WdOK t kk)
 (hS:Sep w0 w [boxC g8 77 [I kk,I aa],accC v 22 eV vs,frzC eS vs t])
 (hR:∀ w',Ext w0 w'→R (.tuple #[I (scoreT t kk),I 0]) w') :
 G Tryz.prog Tryz.f188 n [.c scT] R ρ w:=by
 rw [sc_eq2]
 have t2:∀ (ρ':Fr) (w':World) (k:Nat),ρ' 7=v→ρ' 8=.pointer (some ⟨g8,0,none⟩)→ρ' 9=I ((t.getD 0 []).length:Nat)→ρ' 10=I k→k=alkF (t.getD 0 []).length t→¬ (t.length=0∨(t.getD 0 []).length < 2)→Sep w0 w' [boxC g8 77 [I kk,I aa],accC v 22 eV vs,frzC eS vs t] →
  G Tryz.prog Tryz.f188 n [.c scT2] R ρ' w':=fun ρ' w' k p7 p8 p9 p10 hk hn hS =>
  sc_t2 p7 p8 p9 p10 (by rw [hk];exact alk_le _ _) hvl hvb hw hS fun w'' hx=>by
   have:=hR w'' hx
   unfold scoreT at this
   rw [if_neg hn,←hk] at this
   exact this
 generalize scT2=T at *
 unfold scC2 scT c188
 dsimp only
 by_cases h0:t.length=0
 ·have es:scoreT t kk=0:=by unfold scoreT;rw [if_pos (.inl h0)]
  rw [es] at hR
  (have fct:=(aI @q7 @q8);repeat' (first|(refine gO ?_;intro K hK)|(refine kP ?_;clear hK K)|(refine hK _ _ ?_ ?_<;>clear hK K)|(intro wd hxd;have hS:=Sep.xx hxd)|refine sA ?_|(refine bM ?_ ?_<;>intro hb hc<;>first|exact zxf|(simp only [hb];clear hb))|((first|refine zalc ?_|((with_reducible refine gBox ?_);refine zbox ?_));intro gb wb hS)|((with_reducible refine gSt ?_);refine zs2 ?_;intro wb hS)|(refine G.cn ?_ ?_<;>intro hc<;>try exact zxf)))<;>(try clear fct)
  all_goals
   (have fct:=(aI @q7 @q8);refine rM ?_)
   exact hR _ (Sep.xt ‹_›)
 ·have hz := Sep.frzAt hS (.t (.t .h)) (i:=0) zo
  generalize hr0:t.getD 0 []=r0 at *
  by_cases h1:(r0.length:Int) < 2
  ·have es:scoreT t kk=0:=by unfold scoreT;rw [if_pos (.inr (by rw [hr0];omega))]
   rw [es] at hR
   (have fct:=(aI @q7 @q8);repeat' (first|(refine gO ?_;intro K hK)|(refine kP ?_;clear hK K)|(refine hK _ _ ?_ ?_<;>clear hK K)|(intro wd hxd;have hS:=Sep.xx hxd)|refine sA ?_|(refine bM ?_ ?_<;>intro hb hc<;>first|exact zxf|(simp only [hb];clear hb))|((first|refine zalc ?_|((with_reducible refine gBox ?_);refine zbox ?_));intro gb wb hS)|((with_reducible refine gSt ?_);refine zs2 ?_;intro wb hS)|(refine G.cn ?_ ?_<;>intro hc<;>try exact zxf)))<;>(try clear fct)
   all_goals
    (have fct:=(aI @q7 @q8);refine rM ?_)
    exact hR _ (Sep.xt ‹_›)
  ·(have fct:=(aI @q7 @q8);repeat' (first|(refine gO ?_;intro K hK)|(refine kP ?_;clear hK K)|(refine hK _ _ ?_ ?_<;>clear hK K)|(intro wd hxd;have hS:=Sep.xx hxd)|refine sA ?_|(refine bM ?_ ?_<;>intro hb hc<;>first|exact zxf|(simp only [hb];clear hb))|((first|refine zalc ?_|((with_reducible refine gBox ?_);refine zbox ?_));intro gb wb hS)|((with_reducible refine gSt ?_);refine zs2 ?_;intro wb hS)|(refine G.cn ?_ ?_<;>intro hc<;>try exact zxf)))<;>(try clear fct)
   refine G.loop (fun r w'=>∃ k:Nat,k≤t.length∧alkF r0.length t=k+alkF r0.length (t.drop k)∧r 7=v∧r 8=.pointer (some ⟨g8,0,none⟩)∧r 9=I r0.length∧r 10=I k∧r 40=v∧r 41=I vs.length∧r 42=I k ∧
    Sep w0 w' [boxC g8 77 [I kk,I aa],accC v 22 eV vs,frzC eS vs t]) (fun r _=>t.length - toN (r 42)) ?_ ?_
   ·have fct:=(aI @q7 @q8);exact ⟨0,Nat.zero_le _,by simp,by exact sf,by exact sf,by exact sf,by exact sf,by exact sf,by exact sf,by exact sf,hS⟩
   ·clear hS hz
    rintro u wl ⟨k,hk,ha,q7,q8,q9,q10,q40,q41,q42,hS⟩ ih
    have hm:toN (u 42)=k:=by rw [q42];simp [toN]
    by_cases hlt:(k:Int) < vs.length
    ·have hrk:=Sep.frzAt hS (.t (.t .h)) (i:=k) zo
     by_cases he:(t.getD k []).length=r0.length
     ·have hs:=alk_at (t:=t) (k:=k) zo he
      have he2:(((t.getD k []).length:Nat):Int)=(r0.length:Nat):=by rw [he]
      (have fct:=(a8 @q7 @q8 @q9 @q10 @q40 @q41 @q42 @he2);repeat' (first|(refine gO ?_;intro K hK)|(refine kP ?_;clear hK K)|(refine hK _ _ ?_ ?_<;>clear hK K)|(intro wd hxd;have hS:=Sep.xx hxd)|refine sA ?_|(refine bM ?_ ?_<;>intro hb hc<;>first|exact zxf|(simp only [hb];clear hb))|((first|refine zalc ?_|((with_reducible refine gBox ?_);refine zbox ?_));intro gb wb hS)|((with_reducible refine gSt ?_);refine zs2 ?_;intro wb hS)|(refine G.cn ?_ ?_<;>intro hc<;>try exact zxf)))<;>(try clear fct)
      all_goals
       have fct:=(a7 @q7 @q8 @q9 @q10 @q40 @q41 @q42);refine ih _ _ ⟨k+1,by omega,by omega,by exact sf,by exact sf,by exact sf,by exact sf,by exact sf,by exact sf,by exact sf,hS⟩ ?_
       rw [hm];simp only [push_cast,↓reduceIte,zq1,zq2,zq3,zq4,zq5,toN_i,q7,q8,q9,q10,q40,q41,q42];omega
     ·have hs:=alk_no (t:=t) (k:=k) zo he
      (have fct:=(a7 @q7 @q8 @q9 @q10 @q40 @q41 @q42);repeat' (first|(refine gO ?_;intro K hK)|(refine kP ?_;clear hK K)|(refine hK _ _ ?_ ?_<;>clear hK K)|(intro wd hxd;have hS:=Sep.xx hxd)|refine sA ?_|(refine bM ?_ ?_<;>intro hb hc<;>first|exact zxf|(simp only [hb];clear hb))|((first|refine zalc ?_|((with_reducible refine gBox ?_);refine zbox ?_));intro gb wb hS)|((with_reducible refine gSt ?_);refine zs2 ?_;intro wb hS)|(refine G.cn ?_ ?_<;>intro hc<;>try exact zxf)))<;>(try clear fct)
      all_goals
       exact t2 _ _ k (by simp only [push_cast,↓reduceIte,zq1,zq2,zq3,zq4,zq5,q7,q8,q9,q10,q40,q41,q42]<;>rfl) (by simp only [push_cast,↓reduceIte,zq1,zq2,zq3,zq4,zq5,q7,q8,q9,q10,q40,q41,q42]<;>rfl) (by simp only [push_cast,↓reduceIte,zq1,zq2,zq3,zq4,zq5,q7,q8,q9,q10,q40,q41,q42]<;>rfl) (by simp only [push_cast,↓reduceIte,zq1,zq2,zq3,zq4,zq5,q7,q8,q9,q10,q40,q41,q42]<;>rfl) zo zo hS
    ·have hs:=alk_end (w:=r0.length) (t:=t) (k:=k) zo
     (have fct:=(a7 @q7 @q8 @q9 @q10 @q40 @q41 @q42);repeat' (first|(refine gO ?_;intro K hK)|(refine kP ?_;clear hK K)|(refine hK _ _ ?_ ?_<;>clear hK K)|(intro wd hxd;have hS:=Sep.xx hxd)|refine sA ?_|(refine bM ?_ ?_<;>intro hb hc<;>first|exact zxf|(simp only [hb];clear hb))|((first|refine zalc ?_|((with_reducible refine gBox ?_);refine zbox ?_));intro gb wb hS)|((with_reducible refine gSt ?_);refine zs2 ?_;intro wb hS)|(refine G.cn ?_ ?_<;>intro hc<;>try exact zxf)))<;>(try clear fct)
     all_goals
      exact t2 _ _ k (by simp only [push_cast,↓reduceIte,zq1,zq2,zq3,zq4,zq5,q7,q8,q9,q10,q40,q41,q42]<;>rfl) (by simp only [push_cast,↓reduceIte,zq1,zq2,zq3,zq4,zq5,q7,q8,q9,q10,q40,q41,q42]<;>rfl) (by simp only [push_cast,↓reduceIte,zq1,zq2,zq3,zq4,zq5,q7,q8,q9,q10,q40,q41,q42]<;>rfl) (by simp only [push_cast,↓reduceIte,zq1,zq2,zq3,zq4,zq5,q7,q8,q9,q10,q40,q41,q42]<;>rfl) zo zo hS
end
def scoR (d:Dl) (s:Str):Int:=if rightD d=true then scoreM d s else 0
theorem scp_bd (d:Dl) (s:Str):((parM d wideL s).rs.map Prod.fst).length≤s.length+1:=by rw [List.length_map];exact parM_len _ _ _
set_option maxHeartbeats 1000000 in
theorem score_spec (d:Dl) (s:Str) (w:World) (hl:s.length≤100000):Pu Tryz.prog 188 #[(.agg #[U d.dl,U d.q,I d.e]),S s] w (.tuple #[I (scoR d s),I (if rightD d=true then 0 else 1)]):=by
 refine En 75 c188 Tryz.func188 ?_
 have hS:=Sep.start w
 cases hr:rightD d
 ·have es:scoR d s=0:=by unfold scoR;rw [hr];rfl
  rw [es]
  (have fct:=@hr;repeat' (first|(refine gO ?_;intro K hK)|(refine kP ?_;clear hK K)|(refine hK _ _ ?_ ?_<;>clear hK K)|(intro wd hxd;have hS:=Sep.xx hxd)|refine sA ?_|(refine bM ?_ ?_<;>intro hb hc<;>first|exact zxf|(simp only [hb];clear hb))|((first|refine zalc ?_|((with_reducible refine gBox ?_);refine zbox ?_));intro gb wb hS)|((with_reducible refine gSt ?_);refine zs2 ?_;intro wb hS)|(refine zcp 85 (checkD_spec d _) ?_;intro wb hS)|(refine G.cn ?_ ?_<;>intro hc<;>try exact zxf)))<;>(try clear fct)
  all_goals
   refine rM ?_
   exact Sep.xt ‹_›
 ·have es:scoR d s=scoreM d s:=by unfold scoR;rw [hr];rfl
  rw [es]
  have hp:=fun w=>parse_spec2 d wideL s w zo (R:=parM d wideL s) (walk_wide6 hr s)
  have hbd:=scp_bd d s
  have hwd:=par_wd hr s
  unfold scoreM
  rw [sc_eq]
  generalize hts:(parM d wideL s).rs.map Prod.fst=t at *
  have hrl:(parM d wideL s).rs.length=t.length:=by rw [←hts,List.length_map]
  have tl:∀ (n:Nat) (ρ':Fr) (w':World) (v:Value) (vs:List Value) (g8:Nat),ρ' 7=v→ρ' 8=.pointer (some ⟨g8,0,none⟩)→vs.length=(parM d wideL s).rs.length→Sep w w' [boxC g8 77 [I (parM d wideL s).k,I (parM d wideL s).a],accC v 22 eV vs,frzC eS vs t] →
   G Tryz.prog Tryz.f188 n [.c scT] (fun v w'=>v=.tuple #[I (scoreT t (parM d wideL s).k),I (if true=true then 0 else 1)]∧Ext w w') ρ' w':=fun n ρ' w' v vs g8 p7 p8 hvl hS =>
   sc_t p7 p8 zo zo hwd hS fun w'' hx=>⟨rfl,hx⟩
  generalize scT=T at *
  unfold scC c188
  dsimp only
  generalize parM d wideL s=R at *
  (have fct:=@hr;repeat' (first|(refine gO ?_;intro K hK)|(refine kP ?_;clear hK K)|(refine hK _ _ ?_ ?_<;>clear hK K)|(intro wd hxd;have hS:=Sep.xx hxd)|refine sA ?_|(refine bM ?_ ?_<;>intro hb hc<;>first|exact zxf|(simp only [hb];clear hb))|((first|refine zalc ?_|((with_reducible refine gBox ?_);refine zbox ?_));intro gb wb hS)|((with_reducible refine gSt ?_);refine zs2 ?_;intro wb hS)|(refine zcp 85 (checkD_spec d _) ?_;intro wb hS)|(refine zcp 72 (wide_spec _) ?_;intro wb hS)|(refine zco 38 (hp _) ?_;rintro vb wb ⟨v,vs,rfl,hvl,hS2⟩;have hS:=hS2.ap;simp only [apps] at hS)|(with_reducible refine aI (a:=OT _ _ _ _ _) (b:=OT _ _ _ _ _) ?_ ?_)|(refine G.cn ?_ ?_<;>intro hc<;>try exact zxf)))<;>(try clear fct)
  all_goals
   exact tl _ _ _ v vs _ (by simp only [push_cast,↓reduceIte,zq1,zq2,zq3,zq4,zq5]<;>rfl) (by simp only [push_cast,↓reduceIte,zq1,zq2,zq3,zq4,zq5]<;>rfl) hvl (Sep.sub hS zu)
theorem scoT_spec {d:Dl} (hd:d∈triedL) (s:Str) (w:World) (hl:s.length≤100000):Pu Tryz.prog 188 #[(.agg #[U d.dl,U d.q,I d.e]),S s] w (.tuple #[I (scoreM d s),I 0]):=by
 have h:=score_spec d s w hl
 unfold scoR at h
 rw [(tried_right d hd).1] at h
 exact h
theorem gsL_take (s:Str) (k:Nat) (hk:(k:Int) < 24):(gsL s).take (k+1)=(gsL s).take k++[⟨triedL.getD k default,scoreM (triedL.getD k default) s⟩]:=mapT _ triedL k (by have:=tried_len;omega)
attribute [local irreducible] triedL gsL scoreM
def c159l1:MC:=(Z (yr [qq 11 (yb .lss (Y 10) (Y 9))]) (Z (yd (Y 11) yk (.exit 0)) (Z (.blk 1 (Z (yr [qq 12 (.adr 3 (Y 8) (Y 10)),qq 13 (.ld (.some 3) (Y 12)),qq 5 (.alc 39 [(.int .u8 0),(.int .u8 0),(.int .i64 0)]),qn (.st 3 (Y 5) (Y 13))]) (Z (yr [qq 15 (.ld (.some 3) (Y 5)),qm 16 0,qq 17 (yl 188 [(Y 15),(Y 16)]),qm 14 17,qq 18 (.ext 0 (Y 14)),qq 19 (.ext 1 (Y 14)),qm 6 18,qm 7 19]) (yr [qm 20 3,qq 21 (.ld (.some 3) (Y 5)),qm 22 6,qq 23 (.bld [(.int .u8 0),(.int .u8 0),(.int .i64 0),(.int .i64 0)] [⟨0,⟨3,(Y 21)⟩⟩,⟨3,⟨1,(Y 22)⟩⟩]),qq 24 (.bsl 179 [(.int .u8 0),(.int .u8 0),(.int .i64 0),(.int .i64 0)] 1 [⟨0,⟨4,(Y 23)⟩⟩]),qq 25 (.raw (.call ⟨(.builtin .append),#[(Y 20),(Y 24)],#[225,225]⟩) 225),qm 3 25])))) (yr [qq 26 (yb .add (Y 10) (ki 1)),qm 10 26]))))
def c159:MC:=(Z (yr [qq 2 (.mv (yc (.slice none 0 0)))]) (Z (yr [qq 3 (.mv (yc (.slice none 0 0)))]) (Z (Z (yr [qq 8 (yl 187 []),qq 9 (.len (Y 8)),qq 10 (.mv (ki 0))]) (.blk 0 (.loop c159l1))) (Z (yr [qm 27 3,qq 28 (yl 189 [(Y 27),(.func 190)])]) (Z (yr [qm 29 3,qm 2 29]) .ret)))))
set_option maxHeartbeats 1000000 in
theorem all_spec (s:Str) (w:World) (hl:s.length≤100000):Ret Tryz.prog 159 #[S s] w fun res w'=>∃ ys,MgPost gsc gix 0 24 (gsL s) ys∧Sep w w' [accC res 179 eG ys]:=by
 refine En 30 c159 Tryz.func159 ?_
 have hS:=(Sep.start w).nil 179 eG
 have htl:(triedL.length:Int)=24:=by rw [tried_len];rfl
 have hgl:=gs_len s
 (have fct:=@htl;repeat' (first|refine G.reg fun K hK=>?_|(refine kM ?_;clear hK K)|refine sA ?_|((first|refine zalc ?_|refine zbsl ?_);intro gb wb hS)|((with_reducible refine gSt ?_);refine zs2 ?_;intro wb hS)|(refine zco 187 (tried_spec _) ?_;rintro vb wb hS2;have hS:=hS2.ap;simp only [apps] at hS)|(refine G.cn ?_ ?_<;>intro hc<;>try exact zxf)))<;>(try clear fct)
 refine G.loop (fun r w'=>∃ (k:Nat) (lv:Value),k≤24∧r 0=S s∧r 3=lv∧r 8=vb∧r 9=I 24∧r 10=I k∧Sep w w' [accC lv 179 eG ((gsL s).take k),accC vb 39 eDl triedL]) (fun r _=>24 - toN (r 10)) ?_ ?_
 ·have fct:=@htl;exact ⟨0,_,by omega,by exact sf,by exact sf,by exact sf,by exact sf,by exact sf,hS.sub (.c (.t .h) (.c .h .n))⟩
 ·clear hS hS2
  rintro u wl ⟨k,lv,hk,q0,q3,q8,q9,q10,hS⟩ ih
  have hm:toN (u 10)=k:=by rw [q10];simp [toN]
  by_cases hlt:(k:Int) < 24
  ·have hmem:=tried_mem k zo
   have htk:=gsL_take s k hlt
   have htl2:((gsL s).take k).length=k:=by rw [List.length_take];omega
   generalize hd:triedL.getD k default=d at *
   have hsd:=score_d s hmem
   have hsco:=fun w=>scoT_spec hmem s w hl
   generalize scoreM d s=sc at *
   (have fct:=(a7 @q0 @q3 @q8 @q9 @q10 @eDl_f @hd);repeat' (first|refine G.reg fun K hK=>?_|(refine kM ?_;clear hK K)|refine sA ?_|((first|refine zalc ?_|refine zbsl ?_);intro gb wb hS)|((with_reducible refine gSt ?_);refine zs2 ?_;intro wb hS)|(refine zcp 188 (hsco _) ?_;intro wb hS)|(refine zap (y:=(⟨d,sc⟩:Gs)) ?_ (hy:=by rfl);intro vb wb hS)|(refine G.cn ?_ ?_<;>intro hc<;>try exact zxf)))<;>(try clear fct)
   all_goals
    rw [←htk] at hS
    have fct:=(a5 @q0 @q3 @q8 @q9 @q10);refine ih _ _ ⟨k+1,_,by omega,by exact sf,by exact sf,by exact sf,by exact sf,by exact sf,(Sep.sub hS zu)⟩ ?_
    rw [hm];simp only [push_cast,↓reduceIte,zq1,zq2,zq3,zq4,zq5,toN_i,q0,q3,q8,q9,q10];omega
  ·have ek:k=24:=by omega
   subst ek
   rw [List.take_of_length_le zo] at hS
   have hS:Sep w wl [accC lv 179 eG (gsL s)]:=hS.sub (.c .h .n)
   have hcc:∀ {w2},Sep w w2 [accC lv 179 eG (gsL s)]→_:=fun {w2} h=>sortS_spec (w:=w2) h (gs_bd s) hgl (gs_ix s)
   (have fct:=(a5 @q0 @q3 @q8 @q9 @q10);repeat' (first|refine G.reg fun K hK=>?_|(refine kM ?_;clear hK K)|refine sA ?_|((first|refine zalc ?_|refine zbsl ?_);intro gb wb hS)|((with_reducible refine gSt ?_);refine zs2 ?_;intro wb hS)|(refine zco 189 (hcc hS) ?_;rintro vc wb ⟨rfl,ys,hy,hS⟩)|(refine G.cn ?_ ?_<;>intro hc<;>try exact zxf)))<;>(try clear fct)
   (have fct:=(a5 @q0 @q3 @q8 @q9 @q10);refine rM ?_)
   exact ⟨ys,hy,(Sep.sub hS zu)⟩
def c119:MC:=(Z (yr [qq 2 (.alc 179 [(.int .u8 0),(.int .u8 0),(.int .i64 0),(.int .i64 0)]),qq 3 (.mv (kb false))]) (Z (yr [qm 5 0,qq 6 (yl 159 [(Y 5)]),qq 7 (.adr 4 (Y 6) (ki 0)),qq 8 (.ld (.some 4) (Y 7)),qq 4 (.alc 179 [(.int .u8 0),(.int .u8 0),(.int .i64 0),(.int .i64 0)]),qn (.st 4 (Y 4) (Y 8))]) (Z (.drg [qq 9 (.ld (.some 4) (Y 4)),qq 10 (.fad 3 (Y 4)),qq 11 (.ld none (Y 10)),qq 12 (yb .gtr (Y 11) (ki 0)),qn (.st 4 (Y 2) (Y 9)),qm 3 12] (.some (.br [qq 10 (.fad 3 (Y 4))] (.br [qq 9 (.ld (.some 4) (Y 4))] (.leaf [qq 11 (.ld none (Y 10)),qq 12 (yb .gtr (Y 11) (ki 0)),qn (.st 4 (Y 2) (Y 9)),qm 3 12]) (.leaf [qn (.st 4 (Y 2) (Y 9)),qq 11 (.ld none (Y 10)),qq 12 (yb .gtr (Y 11) (ki 0)),qm 3 12])) (.leaf [qq 11 (.ld none (Y 10)),qq 12 (yb .gtr (Y 11) (ki 0)),qq 9 (.ld (.some 4) (Y 4)),qn (.st 4 (Y 2) (Y 9)),qm 3 12])))) .ret)))
theorem best_spec (s:Str) (w:World) (hl:s.length≤100000):Ret Tryz.prog 119 #[S s] w fun res w'=>∃ g,IsBest s g∧res=.tuple #[.agg #[U g.d.dl,U g.d.q,I g.d.e,I g.sc],.bool (decide (0 < g.sc))]∧Ext w w':=by
 refine En 13 c119 Tryz.func119 ?_
 have hS:=Sep.start w
 (have fct:=@eG_f;repeat' (first|(refine gO ?_;intro K hK)|(refine kP ?_;clear hK K)|(refine hK _ _ ?_ ?_<;>clear hK K)|(intro wd hxd;have hS:=Sep.xx hxd)|refine sA ?_|(refine zalc ?_;intro gb wb hS)|((with_reducible refine gSt ?_);refine zs2 ?_;intro wb hS)|((with_reducible (show CallK _ 159 _ _ _ _ _));refine zco 159 (all_spec s _ hl) ?_;rintro vb wb ⟨ys,hy,hS2⟩;have hS:=hS2.ap;simp only [apps] at hS;have hyl:ys.length=24:=by (have:=hy.kept.len;rw [gs_len] at this;exact this))|(with_reducible refine aI (a:=OT _ _ _ _ _) (b:=OT _ _ _ _ _) ?_ ?_)))<;>(try clear fct)
 all_goals
  refine rM ?_
  exact ⟨_,best_of hy,rfl,Sep.xt ‹_›⟩
end Go.Proofs.YtllanbmpacgigaaGreatDoor
