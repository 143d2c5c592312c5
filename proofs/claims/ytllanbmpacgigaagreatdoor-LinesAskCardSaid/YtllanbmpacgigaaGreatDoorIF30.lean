/- Texts of the proof, joined. -/
import Derived.Test.YtllanbmpacgigaaGreatDoorIE30
import Derived.Test.YtllanbmpacgigaaGreatDoorICt
namespace Go.Proofs.YtllanbmpacgigaaGreatDoor
open Operand renaming tmp→Y,const→yc
open MC renaming seq→Z,reg→yr,skip→yk,cond→yd
open MO renaming call→yl,bin→yb
open Nat renaming reduceAdd→zq1,reduceLeDiff→zq2,reduceEqDiff→zq3,reduceLT→zq4
open Int renaming reduceToNat→zq5
set_option linter.unusedSimpArgs false
set_option linter.unusedVariables false
attribute [local irreducible] SemK UnitK StK AlcK BslK CallK CallV Instr.box Builtin.append_ Instr.makeSlice Instr.makeMap Instr.lookup Instr.mapUpdate Instr.sliceAt convert
open Go.RowKit
theorem eq_nilM {P:Program} {t kt et:TypeId} {p:Option Nat} {w:World} (hu:P.underlying t=some (.map kt et)):(Op.equal t (.map p) (.map none)).run P w=.ok (isNil (.map p)) w:=by
 have e0:∀ dd,(Op.equalIn (dd+1) t (.map p) (.map none)).run P w=.ok (isNil (.map p)) w:=fun dd=>by
  cases p<;>simp [Op.equalIn,run_underlying hu,isNil]
 simpa [Op.equal,Op.maxDepth] using e0 9999
theorem zn5 {t kt et:TypeId} {z:Value} {d:Option Nat} {ρ:Fr} {next:Fr→World→Prop} {w:World} {x y:Operand} {p:Option Nat} (h:next (updO ρ d (.bool (isNil (.map p)))) w) (hu:MapT Tryz.prog t kt et z:=by exact dmp):SemK Tryz.prog (do eqGuard .eql t x y (.map p) (.map none);binOp .eql t (.map p) (.map none)) w d ρ next :=
 Eq.mpr (semK_val (by simp [eqGuard,binOp,eq_nilM hu.u]<;>rfl)) h
theorem isNil_m {r:Nat}:isNil (.map (some r))=false:=rfl
attribute [push_cast] isNil_m
def lputM (m:Str→Option Str) (rest:Str) (bh:Bool):Option (Str→Option Str) :=
 if (cutT 32 rest).2.2=true∧nmM (cutT 32 rest).1=true then (unL (cutT 32 rest).2.1).map fun t=>mput m (cutT 32 rest).1 ((if bh=true then (m (cutT 32 rest).1).getD [] else [])++t) else none
theorem unL_len:∀ (n:Nat) (s:Str),s.length≤n→∀ t,unL s=some t→t.length≤s.length:=by
 intro n
 induction n with
 | zero=>intro s h t ht;cases s with
   | nil=>simp [unL] at ht;subst ht;simp
   | cons=>simp at h
 | succ n ih =>
   intro s h t ht
   cases s with
   | nil=>simp [unL] at ht;subst ht;simp
   | cons b r =>
     simp only [List.length_cons] at h
     by_cases hb:b=92
     ·subst hb
      cases r with
      | nil=>rw [unL_one] at ht;simp at ht
      | cons c r =>
        simp only [List.length_cons] at h
        rw [unL_pair] at ht
        have key:∀ x:UInt8,(unL r).map (x :: ·)=some t→t.length≤(92 :: c :: r).length:=by
         intro x hx
         obtain ⟨y,hy,rfl⟩:=Option.map_eq_some_iff.1 hx
         have:=ih r zo y hy
         simp;omega
        split at ht
        ·exact key _ ht
        split at ht
        ·exact key _ ht
        split at ht
        ·exact key _ ht
        ·simp at ht
     ·rw [unL_o r hb] at ht
      obtain ⟨y,hy,rfl⟩:=Option.map_eq_some_iff.1 ht
      have:=ih r zo y hy
      simp;omega
section
variable {g r:Nat} {x0 x1 x2 lv:Value} {m:Str→Option Str} {M:List Chk} {w w0:World}
def c47:MC:=(Z (yr [qq 6 (.mv (yc (S []))),qq 7 (.mv (ki 0))]) (Z (yr [qm 14 1,qq 15 (yl 44 [(Y 14),(yc (S [32]))]),qm 13 15,qq 16 (.ext 0 (Y 13)),qq 17 (.ext 1 (Y 13)),qq 18 (.ext 2 (Y 13)),qm 8 16,qm 9 17,qm 10 18]) (Z (yr [qm 20 9,qq 21 (yl 16 [(Y 20)]),qm 19 21,qq 22 (.ext 0 (Y 19)),qq 23 (.ext 1 (Y 19)),qm 11 22,qm 12 23]) (Z (Z (yr [qm 24 10,qq 25 (.un .not (Y 24)),qm 26 25,qmf 26 27 8,qf 26 28 (yl 65 [(Y 27)]),qf 26 29 (.un .not (Y 28)),qq 30 (.pick (Y 26) (kb true) (Y 29)),qm 31 30,qmf 31 32 12,qf 31 33 (.un .not (Y 32)),qq 34 (.pick (Y 31) (kb true) (Y 33))]) (yd (Y 34) (Z (yr [qq 6 (.mv (yc (S []))),qq 7 (.mv (ki 23))]) .ret) yk)) (Z (Z (yr [qm 35 2]) (yd (Y 35) (yr [qm 36 0,qq 37 (.nck (Y 36)),qq 38 (.fad 4 (Y 37)),qq 39 (.ld none (Y 38)),qm 40 8,qq 41 (.raw (.lookup 52 (Y 39) (Y 40) false) 9),qm 42 11,qq 43 (yb .add (Y 41) (Y 42)),qm 11 43]) yk)) (Z (Z (yr [qm 44 0,qq 45 (.nck (Y 44)),qq 46 (.fad 4 (Y 45)),qq 47 (.ld none (Y 46)),qq 48 (.raw (.binOp .eql 52 (Y 47) (yc (.map none)) 52) 4)]) (yd (Y 48) (yr [qm 49 0,qq 50 (.raw (.makeMap 52 none) 52),qq 51 (.nck (Y 49)),qq 52 (.fad 4 (Y 51)),qn (.st 1 (Y 52) (Y 50))]) yk)) (Z (yr [qm 53 0,qq 54 (.nck (Y 53)),qq 55 (.fad 4 (Y 54)),qq 56 (.ld none (Y 55)),qm 57 8,qm 58 11,qn (.raw (.mapUpdate 52 (Y 56) (Y 57) (Y 58)) 0)]) (Z (yr [qq 6 (.mv (yc (S [111,107]))),qq 7 (.mv (ki 0))]) .ret))))))))
theorem put_spec0 (rest:Str) (bh:Bool) (hl:rest.length≤100000000) (hp:lputM m rest bh=none):Pu Tryz.prog 47 #[(.pointer (some ⟨g,0,none⟩)),S rest,.bool bh] w (.tuple #[S [],I 23]):=by
 refine En 59 c47 Tryz.func47 ?_
 have hS:=Sep.start w
 have hcl:=cutT_len 32 rest
 unfold lputM at hp
 by_cases h1:(cutT 32 rest).2.2=true
 ·by_cases h2:nmM (cutT 32 rest).1=true
  ·rw [if_pos ⟨h1,h2⟩,Option.map_eq_none_iff] at hp
   (have fct:=(a3 @h1 @h2 @hp);repeat' (first|refine G.reg fun K hK=>?_|(refine kM ?_;clear hK K)|refine sA ?_|(refine brO_n ?_ ?_<;>intro hb hc<;>first|exact zxf|(simp only [hb];clear hb))|((with_reducible refine gSt ?_);refine zs2 ?_;intro wb hS)|(refine zcp 44 (cut_spec rest 32 _ zo) ?_;intro wb hS)|(refine zcp 16 (unspellL_spec _ _ zo) ?_;intro wb hS)|(refine zcp 65 (lnamed_spec _ _ zo) ?_;intro wb hS)|(refine G.cn ?_ ?_<;>intro hc<;>try exact zxf)))<;>(try clear fct)
   all_goals
    refine rM ?_
    (first|exact Sep.xt ‹_›|exact ⟨rfl,Sep.xt ‹_›⟩)
  ·rw [Bool.not_eq_true] at h2
   (have fct:=(aI @h1 @h2);repeat' (first|refine G.reg fun K hK=>?_|(refine kM ?_;clear hK K)|refine sA ?_|(refine brO_n ?_ ?_<;>intro hb hc<;>first|exact zxf|(simp only [hb];clear hb))|((with_reducible refine gSt ?_);refine zs2 ?_;intro wb hS)|(refine zcp 44 (cut_spec rest 32 _ zo) ?_;intro wb hS)|(refine zcp 16 (unspellL_spec _ _ zo) ?_;intro wb hS)|(refine zcp 65 (lnamed_spec _ _ zo) ?_;intro wb hS)|(refine G.cn ?_ ?_<;>intro hc<;>try exact zxf)))<;>(try clear fct)
   all_goals
    refine rM ?_
    (first|exact Sep.xt ‹_›|exact ⟨rfl,Sep.xt ‹_›⟩)
 ·rw [Bool.not_eq_true] at h1
  (have fct:=@h1;repeat' (first|refine G.reg fun K hK=>?_|(refine kM ?_;clear hK K)|refine sA ?_|(refine brO_n ?_ ?_<;>intro hb hc<;>first|exact zxf|(simp only [hb];clear hb))|((with_reducible refine gSt ?_);refine zs2 ?_;intro wb hS)|(refine zcp 44 (cut_spec rest 32 _ zo) ?_;intro wb hS)|(refine zcp 16 (unspellL_spec _ _ zo) ?_;intro wb hS)|(refine zcp 65 (lnamed_spec _ _ zo) ?_;intro wb hS)|(refine G.cn ?_ ?_<;>intro hc<;>try exact zxf)))<;>(try clear fct)
  all_goals
   refine rM ?_
   (first|exact Sep.xt ‹_›|exact ⟨rfl,Sep.xt ‹_›⟩)
theorem put_spec1 (rest:Str) (bh:Bool) (hl:rest.length≤100000000) (hmb:∀ k t,m k=some t→t.length≤100000000000) {m':Str→Option Str} (hp:lputM m rest bh=some m') (hS:Sep w0 w (boxC g 55 [x0,x1,x2,lv,.map (some r)] :: mapC r S m :: M)) :
 Ret Tryz.prog 47 #[(.pointer (some ⟨g,0,none⟩)),S rest,.bool bh] w fun v w'=>v=.tuple #[S [111,107],I 0]∧Sep w0 w' (boxC g 55 [x0,x1,x2,lv,.map (some r)] :: mapC r S m' :: M):=by
 refine En 59 c47 Tryz.func47 ?_
 have hcl:=cutT_len 32 rest
 unfold lputM at hp
 split at hp
 ·rename_i h
  obtain ⟨h1,h2⟩:=h
  obtain ⟨t,ht,rfl⟩:=Option.map_eq_some_iff.1 hp
  have htl:=unL_len _ _ (Nat.le_refl _) t ht
  have hg:(some t).getD []=t:=rfl
  cases bh with
  | false =>
    (have fct:=(a4 @h1 @h2 @ht @hg);repeat' (first|refine G.reg fun K hK=>?_|(refine kM ?_;clear hK K)|refine sA ?_|(refine brO_n ?_ ?_<;>intro hb hc<;>first|exact zxf|(simp only [hb];clear hb))|((with_reducible refine gSt ?_);refine zs2 ?_;intro wb hS)|(refine zcp 44 (cut_spec rest 32 _ zo) ?_;intro wb hS)|(refine zcp 16 (unspellL_spec _ _ zo) ?_;intro wb hS)|(refine zcp 65 (lnamed_spec _ _ zo) ?_;intro wb hS)|(refine zlk ?_)|(refine zn5 ?_)|(refine zmu ?_;intro wb hS)|(refine G.cn ?_ ?_<;>intro hc<;>try exact zxf)))<;>(try clear fct)
    all_goals
     refine rM ?_
     (first|exact hS|exact ⟨rfl,hS⟩)
  | true =>
    cases hm:m (cutT 32 rest).1 with
    | none =>
      (have fct:=(a5 @h1 @h2 @ht @hg @hm);repeat' (first|refine G.reg fun K hK=>?_|(refine kM ?_;clear hK K)|refine sA ?_|(refine brO_n ?_ ?_<;>intro hb hc<;>first|exact zxf|(simp only [hb];clear hb))|((with_reducible refine gSt ?_);refine zs2 ?_;intro wb hS)|(refine zcp 44 (cut_spec rest 32 _ zo) ?_;intro wb hS)|(refine zcp 16 (unspellL_spec _ _ zo) ?_;intro wb hS)|(refine zcp 65 (lnamed_spec _ _ zo) ?_;intro wb hS)|(refine zlk ?_)|(refine zn5 ?_)|(refine zmu ?_;intro wb hS)|(refine G.cn ?_ ?_<;>intro hc<;>try exact zxf)))<;>(try clear fct)
      all_goals
       refine rM ?_
       (first|exact hS|exact ⟨rfl,hS⟩)
    | some t0 =>
      have htb:=hmb _ _ hm
      (have fct:=(a5 @h1 @h2 @ht @hg @hm);repeat' (first|refine G.reg fun K hK=>?_|(refine kM ?_;clear hK K)|refine sA ?_|(refine brO_n ?_ ?_<;>intro hb hc<;>first|exact zxf|(simp only [hb];clear hb))|((with_reducible refine gSt ?_);refine zs2 ?_;intro wb hS)|(refine zcp 44 (cut_spec rest 32 _ zo) ?_;intro wb hS)|(refine zcp 16 (unspellL_spec _ _ zo) ?_;intro wb hS)|(refine zcp 65 (lnamed_spec _ _ zo) ?_;intro wb hS)|(refine zlk ?_)|(refine zn5 ?_)|(refine zmu ?_;intro wb hS)|(refine G.cn ?_ ?_<;>intro hc<;>try exact zxf)))<;>(try clear fct)
      all_goals
       refine rM ?_
       (first|exact hS|exact ⟨rfl,hS⟩)
 ·simp at hp
end
section
variable {g:Nat} {L:List Chk} {Q:World→Prop} {w w0:World} {v1:Str} {v2:Int}
theorem no_clear {s v rest:Str} (h:cutT 32 s=(v,rest,true)):(s == [99,108,101,97,114])=false:=by
 rw [beq_eq_false_iff_ne]
 rintro rfl
 rw [show cutT 32 [99,108,101,97,114]=([99,108,101,97,114],[],false) by decide] at h
 simp at h
def c29:MC:=(Z (yr [qq 4 (.mv (yc (S []))),qq 5 (.mv (ki 0))]) (Z (Z (yr [qm 9 1,qq 10 (yb .eql (Y 9) (yc (S [99,108,101,97,114])))]) (yd (Y 10) (Z (yr [qm 11 0,qq 12 (.nck (Y 11)),qq 13 (.fad 3 (Y 12)),qn (.st 1 (Y 13) (yc (.slice none 0 0)))]) (Z (yr [qq 4 (.mv (yc (S [111,107]))),qq 5 (.mv (ki 0))]) .ret)) yk)) (Z (yr [qm 15 1,qq 16 (yl 44 [(Y 15),(yc (S [32]))]),qm 14 16,qq 17 (.ext 0 (Y 14)),qq 18 (.ext 1 (Y 14)),qq 19 (.ext 2 (Y 14)),qm 6 17,qm 7 18,qm 8 19]) (Z (Z (yr [qm 20 8,qq 21 (.un .not (Y 20))]) (yd (Y 21) (Z (yr [qq 4 (.mv (yc (S []))),qq 5 (.mv (ki 23))]) .ret) yk)) (Z (Z (yr [qm 22 6]) (.blk 0 (Z (yr [qq 24 (yb .eql (Y 22) (yc (S [100,105,97,108,101,99,116]))),qm 23 24]) (yd (Y 23) (Z (yr [qm 25 0,qm 26 7,qq 27 (yl 45 [(Y 25),(Y 26)]),qq 28 (.ext 0 (Y 27)),qq 29 (.ext 1 (Y 27)),qm 4 28,qm 5 29]) .ret) (Z (yr [qq 31 (yb .eql (Y 22) (yc (S [99,111,108,117,109,110]))),qm 30 31]) (yd (Y 30) (Z (yr [qm 32 0,qm 33 7,qq 34 (yl 46 [(Y 32),(Y 33)]),qq 35 (.ext 0 (Y 34)),qq 36 (.ext 1 (Y 34)),qm 4 35,qm 5 36]) .ret) (Z (Z (yr [qq 38 (yb .eql (Y 22) (yc (S [112,117,116]))),qm 37 38]) (yd (Y 37) yk (yr [qq 39 (yb .eql (Y 22) (yc (S [97,100,100]))),qm 37 39]))) (yd (Y 37) (Z (yr [qm 40 0,qm 41 7,qm 42 6,qq 43 (yb .eql (Y 42) (yc (S [97,100,100]))),qq 44 (yl 47 [(Y 40),(Y 41),(Y 43)]),qq 45 (.ext 0 (Y 44)),qq 46 (.ext 1 (Y 44)),qm 4 45,qm 5 46]) .ret) (Z (yr [qq 48 (yb .eql (Y 22) (yc (S [103,101,116]))),qm 47 48]) (yd (Y 47) (Z (yr [qm 49 0,qm 50 7,qq 51 (yl 48 [(Y 49),(Y 50)]),qq 52 (.ext 0 (Y 51)),qq 53 (.ext 1 (Y 51)),qm 4 52,qm 5 53]) .ret) (Z (yr [qq 55 (yb .eql (Y 22) (yc (S [115,101,116]))),qm 54 55]) (yd (Y 54) (Z (yr [qm 56 0,qm 57 7,qq 58 (yl 49 [(Y 56),(Y 57)]),qq 59 (.ext 0 (Y 58)),qq 60 (.ext 1 (Y 58)),qm 4 59,qm 5 60]) .ret) (Z (yr [qq 62 (yb .eql (Y 22) (yc (S [100,105,102,102]))),qm 61 62]) (yd (Y 61) (Z (yr [qm 63 0,qm 64 7,qq 65 (yl 50 [(Y 63),(Y 64)]),qq 66 (.ext 0 (Y 65)),qq 67 (.ext 1 (Y 65)),qm 4 66,qm 5 67]) .ret) (Z (Z (yr [qq 69 (yb .eql (Y 22) (yc (S [115,104,111,119]))),qm 68 69]) (yd (Y 68) yk (Z (yr [qq 70 (yb .eql (Y 22) (yc (S [99,104,101,99,107]))),qm 68 70]) (yd (Y 68) yk (Z (yr [qq 71 (yb .eql (Y 22) (yc (S [112,108,97,105,110]))),qm 68 71]) (yd (Y 68) yk (Z (yr [qq 72 (yb .eql (Y 22) (yc (S [115,110,105,102,102]))),qm 68 72]) (yd (Y 68) yk (yr [qq 73 (yb .eql (Y 22) (yc (S [114,111,119,115]))),qm 68 73]))))))))) (yd (Y 68) (Z (yr [qm 74 0,qm 75 6,qm 76 7,qq 77 (yl 51 [(Y 74),(Y 75),(Y 76)]),qq 78 (.ext 0 (Y 77)),qq 79 (.ext 1 (Y 77)),qm 4 78,qm 5 79]) .ret) yk)))))))))))))))) (Z (yr [qq 4 (.mv (yc (S []))),qq 5 (.mv (ki 23))]) .ret))))))
theorem line_dialect (s rest:Str) (hc:cutT 32 s=([100,105,97,108,101,99,116],rest,true)) (hl:s.length≤1000000) (hcall:∀ w,Sep w0 w L→Ret Tryz.prog 45 #[(.pointer (some ⟨g,0,none⟩)),S rest] w fun res w'=>res=.tuple #[S v1,I v2]∧Q w') (hS:Sep w0 w L) :
 Ret Tryz.prog 29 #[(.pointer (some ⟨g,0,none⟩)),S s] w fun v w'=>v=.tuple #[S v1,I v2]∧Q w':=by
 refine En 80 c29 Tryz.func29 ?_
 have hcu:=fun w=>cut_spec s 32 w zo
 rw [hc] at hcu
 dsimp only at hcu
 have e0:=no_clear hc
 skip
 (have fct:=@e0;repeat' (first|refine G.reg fun K hK=>?_|(refine kM ?_;clear hK K)|refine sA ?_|(refine brO_n ?_ ?_<;>intro hb hc<;>first|exact zxf|(simp only [hb];clear hb))|((first|refine zalc ?_|refine zbsl ?_|((with_reducible refine gBox ?_);refine zbox ?_));intro gb wb hS)|((with_reducible refine gSt ?_);refine zs2 ?_;intro wb hS)|(refine zcv ?_)|(refine zcp 44 (hcu _) ?_;intro wb hS)|(refine zco 45 (hcall _ hS) ?_;rintro vb wb ⟨rfl,hQ⟩)|(refine G.cn ?_ ?_<;>intro hc<;>try exact zxf)))<;>(try clear fct)
 all_goals
  refine rM ?_
  (first|exact hQ|exact ⟨rfl,hQ⟩)
theorem line_column (s rest:Str) (hc:cutT 32 s=([99,111,108,117,109,110],rest,true)) (hl:s.length≤1000000) (hcall:∀ w,Sep w0 w L→Ret Tryz.prog 46 #[(.pointer (some ⟨g,0,none⟩)),S rest] w fun res w'=>res=.tuple #[S v1,I v2]∧Q w') (hS:Sep w0 w L) :
 Ret Tryz.prog 29 #[(.pointer (some ⟨g,0,none⟩)),S s] w fun v w'=>v=.tuple #[S v1,I v2]∧Q w':=by
 refine En 80 c29 Tryz.func29 ?_
 have hcu:=fun w=>cut_spec s 32 w zo
 rw [hc] at hcu
 dsimp only at hcu
 have e0:=no_clear hc
 have n0:(([99,111,108,117,109,110]:Str) == [100,105,97,108,101,99,116])=false:=zd
 (have fct:=(aI @e0 @n0);repeat' (first|refine G.reg fun K hK=>?_|(refine kM ?_;clear hK K)|refine sA ?_|(refine brO_n ?_ ?_<;>intro hb hc<;>first|exact zxf|(simp only [hb];clear hb))|((first|refine zalc ?_|refine zbsl ?_|((with_reducible refine gBox ?_);refine zbox ?_));intro gb wb hS)|((with_reducible refine gSt ?_);refine zs2 ?_;intro wb hS)|(refine zcv ?_)|(refine zcp 44 (hcu _) ?_;intro wb hS)|(refine zco 46 (hcall _ hS) ?_;rintro vb wb ⟨rfl,hQ⟩)|(refine G.cn ?_ ?_<;>intro hc<;>try exact zxf)))<;>(try clear fct)
 all_goals
  refine rM ?_
  (first|exact hQ|exact ⟨rfl,hQ⟩)
theorem line_put (s rest:Str) (hc:cutT 32 s=([112,117,116],rest,true)) (hl:s.length≤1000000) (hcall:∀ w,Sep w0 w L→Ret Tryz.prog 47 #[(.pointer (some ⟨g,0,none⟩)),S rest,.bool false] w fun res w'=>res=.tuple #[S v1,I v2]∧Q w') (hS:Sep w0 w L) :
 Ret Tryz.prog 29 #[(.pointer (some ⟨g,0,none⟩)),S s] w fun v w'=>v=.tuple #[S v1,I v2]∧Q w':=by
 refine En 80 c29 Tryz.func29 ?_
 have hcu:=fun w=>cut_spec s 32 w zo
 rw [hc] at hcu
 dsimp only at hcu
 have e0:=no_clear hc
 have n0:(([112,117,116]:Str) == [100,105,97,108,101,99,116])=false:=zd;have n1:(([112,117,116]:Str) == [99,111,108,117,109,110])=false:=zd;have n2:(([112,117,116]:Str) == [97,100,100])=false:=zd
 (have fct:=(a4 @e0 @n0 @n1 @n2);repeat' (first|refine G.reg fun K hK=>?_|(refine kM ?_;clear hK K)|refine sA ?_|(refine brO_n ?_ ?_<;>intro hb hc<;>first|exact zxf|(simp only [hb];clear hb))|((first|refine zalc ?_|refine zbsl ?_|((with_reducible refine gBox ?_);refine zbox ?_));intro gb wb hS)|((with_reducible refine gSt ?_);refine zs2 ?_;intro wb hS)|(refine zcv ?_)|(refine zcp 44 (hcu _) ?_;intro wb hS)|(refine zco 47 (hcall _ hS) ?_;rintro vb wb ⟨rfl,hQ⟩)|(refine G.cn ?_ ?_<;>intro hc<;>try exact zxf)))<;>(try clear fct)
 all_goals
  refine rM ?_
  (first|exact hQ|exact ⟨rfl,hQ⟩)
theorem line_add (s rest:Str) (hc:cutT 32 s=([97,100,100],rest,true)) (hl:s.length≤1000000) (hcall:∀ w,Sep w0 w L→Ret Tryz.prog 47 #[(.pointer (some ⟨g,0,none⟩)),S rest,.bool true] w fun res w'=>res=.tuple #[S v1,I v2]∧Q w') (hS:Sep w0 w L) :
 Ret Tryz.prog 29 #[(.pointer (some ⟨g,0,none⟩)),S s] w fun v w'=>v=.tuple #[S v1,I v2]∧Q w':=by
 refine En 80 c29 Tryz.func29 ?_
 have hcu:=fun w=>cut_spec s 32 w zo
 rw [hc] at hcu
 dsimp only at hcu
 have e0:=no_clear hc
 have n0:(([97,100,100]:Str) == [100,105,97,108,101,99,116])=false:=zd;have n1:(([97,100,100]:Str) == [99,111,108,117,109,110])=false:=zd;have n2:(([97,100,100]:Str) == [112,117,116])=false:=zd
 (have fct:=(a4 @e0 @n0 @n1 @n2);repeat' (first|refine G.reg fun K hK=>?_|(refine kM ?_;clear hK K)|refine sA ?_|(refine brO_n ?_ ?_<;>intro hb hc<;>first|exact zxf|(simp only [hb];clear hb))|((first|refine zalc ?_|refine zbsl ?_|((with_reducible refine gBox ?_);refine zbox ?_));intro gb wb hS)|((with_reducible refine gSt ?_);refine zs2 ?_;intro wb hS)|(refine zcv ?_)|(refine zcp 44 (hcu _) ?_;intro wb hS)|(refine zco 47 (hcall _ hS) ?_;rintro vb wb ⟨rfl,hQ⟩)|(refine G.cn ?_ ?_<;>intro hc<;>try exact zxf)))<;>(try clear fct)
 all_goals
  refine rM ?_
  (first|exact hQ|exact ⟨rfl,hQ⟩)
theorem line_get (s rest:Str) (hc:cutT 32 s=([103,101,116],rest,true)) (hl:s.length≤1000000) (hcall:∀ w,Sep w0 w L→Ret Tryz.prog 48 #[(.pointer (some ⟨g,0,none⟩)),S rest] w fun res w'=>res=.tuple #[S v1,I v2]∧Q w') (hS:Sep w0 w L) :
 Ret Tryz.prog 29 #[(.pointer (some ⟨g,0,none⟩)),S s] w fun v w'=>v=.tuple #[S v1,I v2]∧Q w':=by
 refine En 80 c29 Tryz.func29 ?_
 have hcu:=fun w=>cut_spec s 32 w zo
 rw [hc] at hcu
 dsimp only at hcu
 have e0:=no_clear hc
 have n0:(([103,101,116]:Str) == [100,105,97,108,101,99,116])=false:=zd;have n1:(([103,101,116]:Str) == [99,111,108,117,109,110])=false:=zd;have n2:(([103,101,116]:Str) == [112,117,116])=false:=zd;have n3:(([103,101,116]:Str) == [97,100,100])=false:=zd
 (have fct:=(a5 @e0 @n0 @n1 @n2 @n3);repeat' (first|refine G.reg fun K hK=>?_|(refine kM ?_;clear hK K)|refine sA ?_|(refine brO_n ?_ ?_<;>intro hb hc<;>first|exact zxf|(simp only [hb];clear hb))|((first|refine zalc ?_|refine zbsl ?_|((with_reducible refine gBox ?_);refine zbox ?_));intro gb wb hS)|((with_reducible refine gSt ?_);refine zs2 ?_;intro wb hS)|(refine zcv ?_)|(refine zcp 44 (hcu _) ?_;intro wb hS)|(refine zco 48 (hcall _ hS) ?_;rintro vb wb ⟨rfl,hQ⟩)|(refine G.cn ?_ ?_<;>intro hc<;>try exact zxf)))<;>(try clear fct)
 all_goals
  refine rM ?_
  (first|exact hQ|exact ⟨rfl,hQ⟩)
theorem line_set (s rest:Str) (hc:cutT 32 s=([115,101,116],rest,true)) (hl:s.length≤1000000) (hcall:∀ w,Sep w0 w L→Ret Tryz.prog 49 #[(.pointer (some ⟨g,0,none⟩)),S rest] w fun res w'=>res=.tuple #[S v1,I v2]∧Q w') (hS:Sep w0 w L) :
 Ret Tryz.prog 29 #[(.pointer (some ⟨g,0,none⟩)),S s] w fun v w'=>v=.tuple #[S v1,I v2]∧Q w':=by
 refine En 80 c29 Tryz.func29 ?_
 have hcu:=fun w=>cut_spec s 32 w zo
 rw [hc] at hcu
 dsimp only at hcu
 have e0:=no_clear hc
 have n0:(([115,101,116]:Str) == [100,105,97,108,101,99,116])=false:=zd;have n1:(([115,101,116]:Str) == [99,111,108,117,109,110])=false:=zd;have n2:(([115,101,116]:Str) == [112,117,116])=false:=zd;have n3:(([115,101,116]:Str) == [97,100,100])=false:=zd;have n4:(([115,101,116]:Str) == [103,101,116])=false:=zd
 (have fct:=(a6 @e0 @n0 @n1 @n2 @n3 @n4);repeat' (first|refine G.reg fun K hK=>?_|(refine kM ?_;clear hK K)|refine sA ?_|(refine brO_n ?_ ?_<;>intro hb hc<;>first|exact zxf|(simp only [hb];clear hb))|((first|refine zalc ?_|refine zbsl ?_|((with_reducible refine gBox ?_);refine zbox ?_));intro gb wb hS)|((with_reducible refine gSt ?_);refine zs2 ?_;intro wb hS)|(refine zcv ?_)|(refine zcp 44 (hcu _) ?_;intro wb hS)|(refine zco 49 (hcall _ hS) ?_;rintro vb wb ⟨rfl,hQ⟩)|(refine G.cn ?_ ?_<;>intro hc<;>try exact zxf)))<;>(try clear fct)
 all_goals
  refine rM ?_
  (first|exact hQ|exact ⟨rfl,hQ⟩)
theorem line_diff (s rest:Str) (hc:cutT 32 s=([100,105,102,102],rest,true)) (hl:s.length≤1000000) (hcall:∀ w,Sep w0 w L→Ret Tryz.prog 50 #[(.pointer (some ⟨g,0,none⟩)),S rest] w fun res w'=>res=.tuple #[S v1,I v2]∧Q w') (hS:Sep w0 w L) :
 Ret Tryz.prog 29 #[(.pointer (some ⟨g,0,none⟩)),S s] w fun v w'=>v=.tuple #[S v1,I v2]∧Q w':=by
 refine En 80 c29 Tryz.func29 ?_
 have hcu:=fun w=>cut_spec s 32 w zo
 rw [hc] at hcu
 dsimp only at hcu
 have e0:=no_clear hc
 have n0:(([100,105,102,102]:Str) == [100,105,97,108,101,99,116])=false:=zd;have n1:(([100,105,102,102]:Str) == [99,111,108,117,109,110])=false:=zd;have n2:(([100,105,102,102]:Str) == [112,117,116])=false:=zd;have n3:(([100,105,102,102]:Str) == [97,100,100])=false:=zd;have n4:(([100,105,102,102]:Str) == [103,101,116])=false:=zd;have n5:(([100,105,102,102]:Str) == [115,101,116])=false:=zd
 (have fct:=(a7 @e0 @n0 @n1 @n2 @n3 @n4 @n5);repeat' (first|refine G.reg fun K hK=>?_|(refine kM ?_;clear hK K)|refine sA ?_|(refine brO_n ?_ ?_<;>intro hb hc<;>first|exact zxf|(simp only [hb];clear hb))|((first|refine zalc ?_|refine zbsl ?_|((with_reducible refine gBox ?_);refine zbox ?_));intro gb wb hS)|((with_reducible refine gSt ?_);refine zs2 ?_;intro wb hS)|(refine zcv ?_)|(refine zcp 44 (hcu _) ?_;intro wb hS)|(refine zco 50 (hcall _ hS) ?_;rintro vb wb ⟨rfl,hQ⟩)|(refine G.cn ?_ ?_<;>intro hc<;>try exact zxf)))<;>(try clear fct)
 all_goals
  refine rM ?_
  (first|exact hQ|exact ⟨rfl,hQ⟩)
theorem line_show (s rest:Str) (hc:cutT 32 s=([115,104,111,119],rest,true)) (hl:s.length≤1000000) (hcall:∀ w,Sep w0 w L→Ret Tryz.prog 51 #[(.pointer (some ⟨g,0,none⟩)),S [115,104,111,119],S rest] w fun res w'=>res=.tuple #[S v1,I v2]∧Q w') (hS:Sep w0 w L) :
 Ret Tryz.prog 29 #[(.pointer (some ⟨g,0,none⟩)),S s] w fun v w'=>v=.tuple #[S v1,I v2]∧Q w':=by
 refine En 80 c29 Tryz.func29 ?_
 have hcu:=fun w=>cut_spec s 32 w zo
 rw [hc] at hcu
 dsimp only at hcu
 have e0:=no_clear hc
 have n0:(([115,104,111,119]:Str) == [100,105,97,108,101,99,116])=false:=zd;have n1:(([115,104,111,119]:Str) == [99,111,108,117,109,110])=false:=zd;have n2:(([115,104,111,119]:Str) == [112,117,116])=false:=zd;have n3:(([115,104,111,119]:Str) == [97,100,100])=false:=zd;have n4:(([115,104,111,119]:Str) == [103,101,116])=false:=zd;have n5:(([115,104,111,119]:Str) == [115,101,116])=false:=zd;have n6:(([115,104,111,119]:Str) == [100,105,102,102])=false:=zd
 (have fct:=(a8 @e0 @n0 @n1 @n2 @n3 @n4 @n5 @n6);repeat' (first|refine G.reg fun K hK=>?_|(refine kM ?_;clear hK K)|refine sA ?_|(refine brO_n ?_ ?_<;>intro hb hc<;>first|exact zxf|(simp only [hb];clear hb))|((first|refine zalc ?_|refine zbsl ?_|((with_reducible refine gBox ?_);refine zbox ?_));intro gb wb hS)|((with_reducible refine gSt ?_);refine zs2 ?_;intro wb hS)|(refine zcv ?_)|(refine zcp 44 (hcu _) ?_;intro wb hS)|(refine zco 51 (hcall _ hS) ?_;rintro vb wb ⟨rfl,hQ⟩)|(refine G.cn ?_ ?_<;>intro hc<;>try exact zxf)))<;>(try clear fct)
 all_goals
  refine rM ?_
  (first|exact hQ|exact ⟨rfl,hQ⟩)
theorem line_check (s rest:Str) (hc:cutT 32 s=([99,104,101,99,107],rest,true)) (hl:s.length≤1000000) (hcall:∀ w,Sep w0 w L→Ret Tryz.prog 51 #[(.pointer (some ⟨g,0,none⟩)),S [99,104,101,99,107],S rest] w fun res w'=>res=.tuple #[S v1,I v2]∧Q w') (hS:Sep w0 w L) :
 Ret Tryz.prog 29 #[(.pointer (some ⟨g,0,none⟩)),S s] w fun v w'=>v=.tuple #[S v1,I v2]∧Q w':=by
 refine En 80 c29 Tryz.func29 ?_
 have hcu:=fun w=>cut_spec s 32 w zo
 rw [hc] at hcu
 dsimp only at hcu
 have e0:=no_clear hc
 have n0:(([99,104,101,99,107]:Str) == [100,105,97,108,101,99,116])=false:=zd;have n1:(([99,104,101,99,107]:Str) == [99,111,108,117,109,110])=false:=zd;have n2:(([99,104,101,99,107]:Str) == [112,117,116])=false:=zd;have n3:(([99,104,101,99,107]:Str) == [97,100,100])=false:=zd;have n4:(([99,104,101,99,107]:Str) == [103,101,116])=false:=zd;have n5:(([99,104,101,99,107]:Str) == [115,101,116])=false:=zd;have n6:(([99,104,101,99,107]:Str) == [100,105,102,102])=false:=zd;have n7:(([99,104,101,99,107]:Str) == [115,104,111,119])=false:=zd
 (have fct:=(a9 @e0 @n0 @n1 @n2 @n3 @n4 @n5 @n6 @n7);repeat' (first|refine G.reg fun K hK=>?_|(refine kM ?_;clear hK K)|refine sA ?_|(refine brO_n ?_ ?_<;>intro hb hc<;>first|exact zxf|(simp only [hb];clear hb))|((first|refine zalc ?_|refine zbsl ?_|((with_reducible refine gBox ?_);refine zbox ?_));intro gb wb hS)|((with_reducible refine gSt ?_);refine zs2 ?_;intro wb hS)|(refine zcv ?_)|(refine zcp 44 (hcu _) ?_;intro wb hS)|(refine zco 51 (hcall _ hS) ?_;rintro vb wb ⟨rfl,hQ⟩)|(refine G.cn ?_ ?_<;>intro hc<;>try exact zxf)))<;>(try clear fct)
 all_goals
  refine rM ?_
  (first|exact hQ|exact ⟨rfl,hQ⟩)
theorem line_plain (s rest:Str) (hc:cutT 32 s=([112,108,97,105,110],rest,true)) (hl:s.length≤1000000) (hcall:∀ w,Sep w0 w L→Ret Tryz.prog 51 #[(.pointer (some ⟨g,0,none⟩)),S [112,108,97,105,110],S rest] w fun res w'=>res=.tuple #[S v1,I v2]∧Q w') (hS:Sep w0 w L) :
 Ret Tryz.prog 29 #[(.pointer (some ⟨g,0,none⟩)),S s] w fun v w'=>v=.tuple #[S v1,I v2]∧Q w':=by
 refine En 80 c29 Tryz.func29 ?_
 have hcu:=fun w=>cut_spec s 32 w zo
 rw [hc] at hcu
 dsimp only at hcu
 have e0:=no_clear hc
 have n0:(([112,108,97,105,110]:Str) == [100,105,97,108,101,99,116])=false:=zd;have n1:(([112,108,97,105,110]:Str) == [99,111,108,117,109,110])=false:=zd;have n2:(([112,108,97,105,110]:Str) == [112,117,116])=false:=zd;have n3:(([112,108,97,105,110]:Str) == [97,100,100])=false:=zd;have n4:(([112,108,97,105,110]:Str) == [103,101,116])=false:=zd;have n5:(([112,108,97,105,110]:Str) == [115,101,116])=false:=zd;have n6:(([112,108,97,105,110]:Str) == [100,105,102,102])=false:=zd;have n7:(([112,108,97,105,110]:Str) == [115,104,111,119])=false:=zd;have n8:(([112,108,97,105,110]:Str) == [99,104,101,99,107])=false:=zd
 (have fct:=(a10 @e0 @n0 @n1 @n2 @n3 @n4 @n5 @n6 @n7 @n8);repeat' (first|refine G.reg fun K hK=>?_|(refine kM ?_;clear hK K)|refine sA ?_|(refine brO_n ?_ ?_<;>intro hb hc<;>first|exact zxf|(simp only [hb];clear hb))|((first|refine zalc ?_|refine zbsl ?_|((with_reducible refine gBox ?_);refine zbox ?_));intro gb wb hS)|((with_reducible refine gSt ?_);refine zs2 ?_;intro wb hS)|(refine zcv ?_)|(refine zcp 44 (hcu _) ?_;intro wb hS)|(refine zco 51 (hcall _ hS) ?_;rintro vb wb ⟨rfl,hQ⟩)|(refine G.cn ?_ ?_<;>intro hc<;>try exact zxf)))<;>(try clear fct)
 all_goals
  refine rM ?_
  (first|exact hQ|exact ⟨rfl,hQ⟩)
theorem line_sniff (s rest:Str) (hc:cutT 32 s=([115,110,105,102,102],rest,true)) (hl:s.length≤1000000) (hcall:∀ w,Sep w0 w L→Ret Tryz.prog 51 #[(.pointer (some ⟨g,0,none⟩)),S [115,110,105,102,102],S rest] w fun res w'=>res=.tuple #[S v1,I v2]∧Q w') (hS:Sep w0 w L) :
 Ret Tryz.prog 29 #[(.pointer (some ⟨g,0,none⟩)),S s] w fun v w'=>v=.tuple #[S v1,I v2]∧Q w':=by
 refine En 80 c29 Tryz.func29 ?_
 have hcu:=fun w=>cut_spec s 32 w zo
 rw [hc] at hcu
 dsimp only at hcu
 have e0:=no_clear hc
 have n0:(([115,110,105,102,102]:Str) == [100,105,97,108,101,99,116])=false:=zd;have n1:(([115,110,105,102,102]:Str) == [99,111,108,117,109,110])=false:=zd;have n2:(([115,110,105,102,102]:Str) == [112,117,116])=false:=zd;have n3:(([115,110,105,102,102]:Str) == [97,100,100])=false:=zd;have n4:(([115,110,105,102,102]:Str) == [103,101,116])=false:=zd;have n5:(([115,110,105,102,102]:Str) == [115,101,116])=false:=zd;have n6:(([115,110,105,102,102]:Str) == [100,105,102,102])=false:=zd;have n7:(([115,110,105,102,102]:Str) == [115,104,111,119])=false:=zd;have n8:(([115,110,105,102,102]:Str) == [99,104,101,99,107])=false:=zd;have n9:(([115,110,105,102,102]:Str) == [112,108,97,105,110])=false:=zd
 (have fct:=(a11 @e0 @n0 @n1 @n2 @n3 @n4 @n5 @n6 @n7 @n8 @n9);repeat' (first|refine G.reg fun K hK=>?_|(refine kM ?_;clear hK K)|refine sA ?_|(refine brO_n ?_ ?_<;>intro hb hc<;>first|exact zxf|(simp only [hb];clear hb))|((first|refine zalc ?_|refine zbsl ?_|((with_reducible refine gBox ?_);refine zbox ?_));intro gb wb hS)|((with_reducible refine gSt ?_);refine zs2 ?_;intro wb hS)|(refine zcv ?_)|(refine zcp 44 (hcu _) ?_;intro wb hS)|(refine zco 51 (hcall _ hS) ?_;rintro vb wb ⟨rfl,hQ⟩)|(refine G.cn ?_ ?_<;>intro hc<;>try exact zxf)))<;>(try clear fct)
 all_goals
  refine rM ?_
  (first|exact hQ|exact ⟨rfl,hQ⟩)
theorem line_rows (s rest:Str) (hc:cutT 32 s=([114,111,119,115],rest,true)) (hl:s.length≤1000000) (hcall:∀ w,Sep w0 w L→Ret Tryz.prog 51 #[(.pointer (some ⟨g,0,none⟩)),S [114,111,119,115],S rest] w fun res w'=>res=.tuple #[S v1,I v2]∧Q w') (hS:Sep w0 w L) :
 Ret Tryz.prog 29 #[(.pointer (some ⟨g,0,none⟩)),S s] w fun v w'=>v=.tuple #[S v1,I v2]∧Q w':=by
 refine En 80 c29 Tryz.func29 ?_
 have hcu:=fun w=>cut_spec s 32 w zo
 rw [hc] at hcu
 dsimp only at hcu
 have e0:=no_clear hc
 have n0:(([114,111,119,115]:Str) == [100,105,97,108,101,99,116])=false:=zd;have n1:(([114,111,119,115]:Str) == [99,111,108,117,109,110])=false:=zd;have n2:(([114,111,119,115]:Str) == [112,117,116])=false:=zd;have n3:(([114,111,119,115]:Str) == [97,100,100])=false:=zd;have n4:(([114,111,119,115]:Str) == [103,101,116])=false:=zd;have n5:(([114,111,119,115]:Str) == [115,101,116])=false:=zd;have n6:(([114,111,119,115]:Str) == [100,105,102,102])=false:=zd;have n7:(([114,111,119,115]:Str) == [115,104,111,119])=false:=zd;have n8:(([114,111,119,115]:Str) == [99,104,101,99,107])=false:=zd;have n9:(([114,111,119,115]:Str) == [112,108,97,105,110])=false:=zd;have n10:(([114,111,119,115]:Str) == [115,110,105,102,102])=false:=zd
 (have fct:=(a12 @e0 @n0 @n1 @n2 @n3 @n4 @n5 @n6 @n7 @n8 @n9 @n10);repeat' (first|refine G.reg fun K hK=>?_|(refine kM ?_;clear hK K)|refine sA ?_|(refine brO_n ?_ ?_<;>intro hb hc<;>first|exact zxf|(simp only [hb];clear hb))|((first|refine zalc ?_|refine zbsl ?_|((with_reducible refine gBox ?_);refine zbox ?_));intro gb wb hS)|((with_reducible refine gSt ?_);refine zs2 ?_;intro wb hS)|(refine zcv ?_)|(refine zcp 44 (hcu _) ?_;intro wb hS)|(refine zco 51 (hcall _ hS) ?_;rintro vb wb ⟨rfl,hQ⟩)|(refine G.cn ?_ ?_<;>intro hc<;>try exact zxf)))<;>(try clear fct)
 all_goals
  refine rM ?_
  (first|exact hQ|exact ⟨rfl,hQ⟩)
def ansM (v1:Str) (v2:Int):Str:=if v2=0 then v1 else [101,114,114,111,114,32]++Lib.itoa v2
def c11:MC:=(Z (yr [qq 4 (.mv (yc (S [])))]) (Z (yr [qm 8 0,qm 9 1,qq 10 (yl 29 [(Y 8),(Y 9)]),qm 7 10,qq 11 (.ext 0 (Y 7)),qq 12 (.ext 1 (Y 7)),qm 5 11,qm 6 12]) (Z (Z (yr [qm 13 6,qq 14 (yb .neq (Y 13) (ki 0))]) (yd (Y 14) (Z (yr [qm 15 6,qq 16 (yl 30 [(Y 15)]),qq 17 (yb .add (yc (S [101,114,114,111,114,32])) (Y 16)),qm 4 17]) .ret) yk)) (Z (yr [qm 18 5,qm 4 18]) .ret))))
theorem Line_of (s:Str) (hb:-9223372036854775808≤v2∧v2≤9223372036854775807) (hT:v2=0∨Tab w0) (hcall:∀ w,Sep w0 w L→Ret Tryz.prog 29 #[(.pointer (some ⟨g,0,none⟩)),S s] w fun res w'=>res=.tuple #[S v1,I v2]∧Q w') (hS:Sep w0 w L) (hQx:∀ w1 w2,Q w1→Ext w1 w2→Ext w0 w1∧Q w2:=by intro _ _ h hx;exact ⟨h.x,h.ext hx⟩) :
 Ret Tryz.prog 11 #[(.pointer (some ⟨g,0,none⟩)),S s] w fun v w'=>v=S (ansM v1 v2)∧Q w':=by
 refine En 19 c11 Tryz.func11 ?_
 unfold ansM
 by_cases h2:v2=0
 ·rw [if_pos h2]
  (have fct:=@h2;repeat' (first|refine G.reg fun K hK=>?_|(refine kM ?_;clear hK K)|refine sA ?_|(refine zco 29 (hcall _ hS) ?_;rintro vb wb ⟨rfl,hQ⟩)|(refine G.cn ?_ ?_<;>intro hc<;>try exact zxf)))<;>(try clear fct)
  all_goals
   refine rM ?_
   (first|exact hQ|exact ⟨rfl,hQ⟩)
 ·rw [if_neg h2]
  have hT:=hT.resolve_left h2
  have hln:=itoa_ln v2 hb.1 hb.2
  repeat' (first|refine G.reg fun K hK=>?_|(refine kM ?_;clear hK K)|refine sA ?_|(refine zco 29 (hcall _ hS) ?_;rintro vb wb ⟨rfl,hQ⟩;have hS:=Sep.start wb;have hT:=hT.ext (hQx _ _ hQ (Ext.refl _)).1)|(refine zcp 30 (itoa_spec v2 _ hb.1 hb.2 (hT.ext (Sep.xt ‹_›))) ?_;intro wb hS)|(refine G.cn ?_ ?_<;>intro hc<;>try exact zxf))
  all_goals
   refine rM ?_
   have hQ:=(hQx _ _ hQ (Sep.xt ‹_›)).2
   (first|exact hQ|exact ⟨rfl,hQ⟩)
end
theorem Sub.rot {x:Chk}:∀ L:List Chk,Sub (L++[x]) (x :: L)
 | []=>.c .h .n
 | _ :: L=>.c (.t .h) (Sub.rot L)
theorem Ex.last {x:Chk}:∀ L:List Chk,Ex x (L++[x]) L
 | []=>.h
 | _ :: L=>.t (Ex.last L)
theorem Sub.all:∀ L:List Chk,Sub L L
 | []=>.n
 | _ :: L=>.c .h (Sub.all L)
theorem Sub.tor {x:Chk} (L:List Chk):Sub (x :: L) (L++[x]):=.c (Ex.last L) (Sub.all L)
def c10:MC:=(Z (yr [qq 0 (.mv (yc (.pointer none)))]) (Z (yr [qq 1 (.bld [(.int .u8 0),(.int .u8 0),(.int .i64 0)] [⟨0,⟨1,(yc (.int .u8 44))⟩⟩,⟨1,⟨1,(yc (.int .u8 34))⟩⟩,⟨2,⟨1,(ki 1)⟩⟩]),qq 2 (.raw (.makeMap 52 none) 52),qq 3 (.bld [(.int .u8 0),(.int .u8 0),(.int .i64 0),(.slice none 0 0),(.map none)] [⟨0,⟨3,(Y 1)⟩⟩,⟨4,⟨1,(Y 2)⟩⟩]),qq 4 (.raw (.box 55 (Y 3)) 25),qm 0 4]) .ret))
theorem open30_spec (w:World):Ret Tryz.prog 10 #[] w fun v w'=>∃ g r,v=(.pointer (some ⟨g,0,none⟩))∧Sep w w' [boxC g 55 [U 44,U 34,I 1,.slice none 0 0,.map (some r)],mapC r S (fun _=>none)]:=by
 refine En 5 c10 Tryz.func10 ?_
 have hS:=Sep.start w
 repeat' (first|refine G.reg fun K hK=>?_|(refine kM ?_;clear hK K)|refine sA ?_|(((with_reducible refine gBox ?_);refine zbox ?_);intro gb wb hS)|(refine zmm S ?_;intro gb wb hS))
 all_goals
  refine rM ?_
  exact ⟨_,_,rfl,(Sep.sub hS zw)⟩
def c13l1:MC:=(Z (yr [qq 11 (yb .lss (Y 10) (Y 9))]) (Z (yd (Y 11) yk (.exit 0)) (Z (.blk 1 (Z (yr [qq 12 (.adr 1 (Y 8) (Y 10)),qq 13 (.ld none (Y 12)),qm 6 13]) (yr [qm 14 4,qm 15 3,qm 16 6,qq 17 (yl 11 [(Y 15),(Y 16)]),qq 18 (.bsl 9 [(S [])] 1 [⟨0,⟨1,(Y 17)⟩⟩]),qq 19 (.raw (.call ⟨(.builtin .append),#[(Y 14),(Y 18)],#[22,22]⟩) 22),qm 4 19]))) (yr [qq 20 (yb .add (Y 10) (ki 1)),qm 10 20]))))
def c13:MC:=(.seq (.reg [qq 2 (.mv (.const (.slice none 0 0)))]) (.seq (.reg [qq 7 (.call 10 []),qm 3 7]) (.seq (.reg [qq 4 (.mv (.const (.slice none 0 0)))]) (.seq (.seq (.reg [qm 8 0,qq 9 (.len (.tmp 8)),qq 10 (.mv (ki 0))]) (.blk 0 (.loop c13l1))) (.seq (.reg [qm 21 4,qm 2 21]) .ret)))))
theorem play_spec {lv:Value} {l aa:List Str} {w:World} (hr:Rd w eS lv l) (hl:aa.length=l.length) (hlb:l.length≤1000000) (P:Nat→Nat→List Chk→Prop)
 (h0:∀ (g r:Nat) (w':World),Sep w w' [boxC g 55 [U 44,U 34,I 1,.slice none 0 0,.map (some r)],mapC r S (fun _=>none)]→∃ L,P g 0 L∧Sep w w' L)
 (hline:∀ (g k:Nat) (L M:List Chk) (w':World),k < l.length→P g k L→Sep w w' (L++M)→Ret Tryz.prog 11 #[(.pointer (some ⟨g,0,none⟩)),S (l.getD k default)] w' fun v w2=>v=S (aa.getD k default)∧∃ L',P g (k+1) L'∧Sep w w2 (L'++M)) :
 Ret Tryz.prog 13 #[lv] w fun v w'=>Sep w w' [accC v 9 eS aa]:=by
 refine En 22 c13 Tryz.func13 ?_
 have hS:=Sep.start w
 have hbd:=hr.bd
 repeat' (first|refine G.reg fun K hK=>?_|(refine kM ?_;clear hK K)|refine sA ?_|(refine zbsl ?_;intro gb wb hS)|(refine zco 10 (open30_spec _) ?_;rintro vb wb ⟨g,rm,rfl,hS2⟩;have hS:=hS2.ap;simp only [apps] at hS)|(refine G.cn ?_ ?_<;>intro hc<;>try exact zxf))
 all_goals
  obtain ⟨L0,hP0,hS⟩:=h0 g rm _ hS
  have hS:=hS.nil 9 eS
  refine G.loop (fun x w'=>∃ (k:Nat) (ov:Value) (L:List Chk),k≤l.length∧P g k L∧x 3=(.pointer (some ⟨g,0,none⟩))∧x 4=ov∧x 8=lv∧x 9=I l.length∧x 10=I k∧Sep w w' (accC ov 9 eS (aa.take k) :: L)) (fun x _=>l.length - toN (x 10)) ?_ ?_
 ·exact ⟨0,.slice none 0 0,_,Nat.zero_le _,hP0,by exact sf,by exact sf,by exact sf,by exact sf,by exact sf,hS⟩
 ·clear hS
  rintro u wl ⟨k,ov,L,hk,hP,q3,q4,q8,q9,q10,hS⟩ ih
  have hm:toN (u 10)=k:=by rw [q10];simp [toN]
  by_cases hlt:(k:Int) < l.length
  ·have hta:aa.take (k+1)=aa.take k++[aa.getD k default]:=takeD aa k zo
   have hln:=fun w' hS=>hline g k L [accC ov 9 eS (aa.take k)] w' zo hP hS
   have htl:(aa.take k).length≤k:=by rw [List.length_take];omega
   generalize aa.take k=tk at *
   generalize aa.getD k default=ak at *
   (have fct:=(a5 @q3 @q4 @q8 @q9 @q10);repeat' (first|refine G.reg fun K hK=>?_|(refine kM ?_;clear hK K)|refine sA ?_|(refine zbsl ?_;intro gb wb hS)|(refine zco 11 (hln _ (Sep.sub hS (Sub.rot L))) ?_;rintro vb wb ⟨rfl,L2,hP2,hS2⟩;have hS:=Sep.sub hS2 (Sub.tor L2))|(refine zap ?_;intro vb wb hS)|(refine G.cn ?_ ?_<;>intro hc<;>try exact zxf)))<;>(try clear fct)
   all_goals
    rw [←hta] at hS
    have fct:=(a5 @q3 @q4 @q8 @q9 @q10);refine ih _ _ ⟨k+1,_,L2,by omega,hP2,by exact sf,by exact sf,by exact sf,by exact sf,by exact sf,(Sep.sub hS zw)⟩ ?_
    rw [hm];simp only [push_cast,↓reduceIte,zq1,zq2,zq3,zq4,zq5,toN_i,q3,q4,q8,q9,q10];omega
  ·have hta:aa.take k=aa:=List.take_of_length_le zo
   rw [hta] at hS
   (have fct:=(a5 @q3 @q4 @q8 @q9 @q10);repeat' (first|refine G.reg fun K hK=>?_|(refine kM ?_;clear hK K)|refine sA ?_|(refine zbsl ?_;intro gb wb hS)|(refine G.cn ?_ ?_<;>intro hc<;>try exact zxf)))<;>(try clear fct)
   all_goals
    (have fct:=(a5 @q3 @q4 @q8 @q9 @q10);refine rM ?_)
    exact (Sep.sub hS zw)
end Go.Proofs.YtllanbmpacgigaaGreatDoor
