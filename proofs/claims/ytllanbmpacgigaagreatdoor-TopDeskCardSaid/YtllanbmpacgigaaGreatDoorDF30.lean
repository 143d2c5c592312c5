/- Texts of the proof, joined. -/
import Derived.Test.YtllanbmpacgigaaGreatDoorDE30
import Derived.Test.YtllanbmpacgigaaGreatDoorDCt
namespace Go.Proofs.YtllanbmpacgigaaGreatDoor
open Nat renaming reduceAdd→zq1,reduceLeDiff→zq2,reduceEqDiff→zq3,reduceLT→zq4
open Int renaming reduceToNat→zq5
set_option linter.unusedSimpArgs false
set_option linter.unusedVariables false
attribute [local irreducible] SemK UnitK StK AlcK BslK CallK CallV Instr.box Builtin.append_ Instr.makeSlice Instr.makeMap Instr.lookup Instr.mapUpdate Instr.sliceAt convert
open Go.RowKit
theorem eq_nilM {P:Program} {t kt et:TypeId} {p:Option Nat} {w:World} (hu:P.underlying t=some (.map kt et)):(Op.equal t (.map p) (.map none)).run P w=.ok (isNil (.map p)) w:=by
  have e0:∀ dd,(Op.equalIn (dd+1) t (.map p) (.map none)).run P w=.ok (isNil (.map p)) w:=fun dd=>by
    cases p<;>simp [Op.equalIn,run_underlying hu,isNil]
  simpa [Op.equal,Op.maxDepth] using e0 9999
theorem zn5 {t kt et:TypeId} {z:Value} {d:Option Nat} {ρ:Fr} {next:Fr→World→Prop} {w:World} {x y:Operand} {p:Option Nat} (h:next (updO ρ d (.bool (isNil (.map p)))) w) (hu:MapT Tryz.prog t kt et z:=by exact dmp):SemK Tryz.prog (do eqGuard .eql t x y (.map p) (.map none);binOp .eql t (.map p) (.map none)) w d ρ next :=
  Eq.mpr (semK_val (by simp [eqGuard,binOp,eq_nilM hu.u]<;>rfl)) h
theorem isNil_m {r:Nat}:isNil (.map (some r))=false:=rfl
attribute [push_cast] isNil_m
def lputM (m:Str→Option Str) (rest:Str) (bh:Bool):Option (Str→Option Str) :=
  if (cutT 32 rest).2.2=true∧nmM (cutT 32 rest).1=true then (unL (cutT 32 rest).2.1).map fun t=>mput m (cutT 32 rest).1 ((if bh=true then (m (cutT 32 rest).1).getD [] else [])++t) else none
theorem unL_len:∀ (n:Nat) (s:Str),s.length≤n→∀ t,unL s=some t→t.length≤s.length:=by
  intro n
  induction n with
  | zero=>intro s h t ht;cases s with
    | nil=>simp [unL] at ht;subst ht;simp
    | cons=>simp at h
  | succ n ih =>
    intro s h t ht
    cases s with
    | nil=>simp [unL] at ht;subst ht;simp
    | cons b r =>
      simp only [List.length_cons] at h
      by_cases hb:b=92
      · subst hb
        cases r with
        | nil=>rw [unL_one] at ht;simp at ht
        | cons c r =>
          simp only [List.length_cons] at h
          rw [unL_pair] at ht
          have key:∀ x:UInt8,(unL r).map (x :: ·)=some t→t.length≤(92 :: c :: r).length:=by
            intro x hx
            obtain ⟨y,hy,rfl⟩:=Option.map_eq_some_iff.1 hx
            have:=ih r (by omega) y hy
            simp;omega
          split at ht
          · exact key _ ht
          split at ht
          · exact key _ ht
          split at ht
          · exact key _ ht
          · simp at ht
      · rw [unL_o r hb] at ht
        obtain ⟨y,hy,rfl⟩:=Option.map_eq_some_iff.1 ht
        have:=ih r (by omega) y hy
        simp;omega
section
variable {g r:Nat} {x0 x1 x2 lv:Value} {m:Str→Option Str} {M:List Chk} {w w0:World}
def c47:MC:=(.seq (.reg [qq 6 (.mv (.const (S []))),qq 7 (.mv (ki 0))]) (.seq (.reg [qm 14 1,qq 15 (.call 44 [(.tmp 14),(.const (S [32]))]),qm 13 15,qq 16 (.ext 0 (.tmp 13)),qq 17 (.ext 1 (.tmp 13)),qq 18 (.ext 2 (.tmp 13)),qm 8 16,qm 9 17,qm 10 18]) (.seq (.reg [qm 20 9,qq 21 (.call 16 [(.tmp 20)]),qm 19 21,qq 22 (.ext 0 (.tmp 19)),qq 23 (.ext 1 (.tmp 19)),qm 11 22,qm 12 23]) (.seq (.seq (.reg [qm 24 10,qq 25 (.un .not (.tmp 24)),qm 26 25,qmf 26 27 8,qf 26 28 (.call 65 [(.tmp 27)]),qf 26 29 (.un .not (.tmp 28)),qq 30 (.pick (.tmp 26) (kb true) (.tmp 29)),qm 31 30,qmf 31 32 12,qf 31 33 (.un .not (.tmp 32)),qq 34 (.pick (.tmp 31) (kb true) (.tmp 33))]) (.cond (.tmp 34) (.seq (.reg [qq 6 (.mv (.const (S []))),qq 7 (.mv (ki 23))]) .ret) .skip)) (.seq (.seq (.reg [qm 35 2]) (.cond (.tmp 35) (.reg [qm 36 0,qq 37 (.nck (.tmp 36)),qq 38 (.fad 4 (.tmp 37)),qq 39 (.ld none (.tmp 38)),qm 40 8,qq 41 (.raw (.lookup 52 (.tmp 39) (.tmp 40) false) 9),qm 42 11,qq 43 (.bin .add (.tmp 41) (.tmp 42)),qm 11 43]) .skip)) (.seq (.seq (.reg [qm 44 0,qq 45 (.nck (.tmp 44)),qq 46 (.fad 4 (.tmp 45)),qq 47 (.ld none (.tmp 46)),qq 48 (.raw (.binOp .eql 52 (.tmp 47) (.const (.map none)) 52) 4)]) (.cond (.tmp 48) (.reg [qm 49 0,qq 50 (.raw (.makeMap 52 none) 52),qq 51 (.nck (.tmp 49)),qq 52 (.fad 4 (.tmp 51)),qn (.st 1 (.tmp 52) (.tmp 50))]) .skip)) (.seq (.reg [qm 53 0,qq 54 (.nck (.tmp 53)),qq 55 (.fad 4 (.tmp 54)),qq 56 (.ld none (.tmp 55)),qm 57 8,qm 58 11,qn (.raw (.mapUpdate 52 (.tmp 56) (.tmp 57) (.tmp 58)) 0)]) (.seq (.reg [qq 6 (.mv (.const (S [111,107]))),qq 7 (.mv (ki 0))]) .ret))))))))
theorem k47:conv Tryz.prog 59 (Tryz.f47.body.getD .skip)=c47:=by kernel_rfl
theorem in47 {a0 a1 a2:Value} {w:World} {R:Value→World→Prop} (h:G Tryz.prog Tryz.f47 59 [.c c47] R (frL 0 [a0,a1,a2]) w):Ret Tryz.prog 47 #[a0,a1,a2] w R:=G.enter (args:=[a0,a1,a2]) Tryz.func47 (c:=Tryz.f47.body.getD .skip) (by kernel_rfl) (by kernel_rfl) (by simp) k47 h
theorem put_spec1 (rest:Str) (bh:Bool) (hl:rest.length≤100000000) (hmb:∀ k t,m k=some t→t.length≤100000000000) {m':Str→Option Str} (hp:lputM m rest bh=some m') (hS:Sep w0 w (boxC g 55 [x0,x1,x2,lv,.map (some r)] :: mapC r S m :: M)) :
    Ret Tryz.prog 47 #[(.pointer (some ⟨g,0,none⟩)),S rest,.bool bh] w fun v w'=>v=.tuple #[S [111,107],I 0]∧Sep w0 w' (boxC g 55 [x0,x1,x2,lv,.map (some r)] :: mapC r S m' :: M):=by
  refine in47 ?_
  have hcl:=cutT_len 32 rest
  unfold lputM at hp
  split at hp
  · rename_i h
    obtain ⟨h1,h2⟩:=h
    obtain ⟨t,ht,rfl⟩:=Option.map_eq_some_iff.1 hp
    have htl:=unL_len _ _ (Nat.le_refl _) t ht
    have hg:(some t).getD []=t:=rfl
    cases bh with
    | false =>
      (have fct:=(And.intro @h1 (And.intro @h2 (And.intro @ht @hg)));repeat' (first|((with_reducible apply G.a);exact rfl)|refine G.reg fun K hK=>?_|(with_reducible (refine hK _ _ ?_);clear hK K)|(have hk:=hK;clear hk;simp (disch:=first|exact dis|fail) only [push_cast,↓reduceIte,zq1,zq2,zq3,zq4,zq5,fct])|(refine brO_n ?_ ?_<;>intro hb hc<;>first|(with_reducible exact False.elim hc)|(exfalso;omega)|(simp only [hb];clear hb))|((with_reducible refine gSt ?_);refine zs2 ?_;intro wb hS)|(refine zcp 44 (cut_spec rest 32 _ (by omega)) ?_;intro wb hS)|(refine zcp 16 (unspellL_spec _ _ (by omega)) ?_;intro wb hS)|(refine zcp 65 (lnamed_spec _ _ (by omega)) ?_;intro wb hS)|(refine zlk ?_)|(refine zn5 ?_)|(refine zmu ?_;intro wb hS)|(refine G.cn ?_ ?_<;>intro hc<;>first|(with_reducible exact False.elim hc)|(exfalso;omega)|skip)))<;>(try clear fct)
      all_goals
        (first|refine G.r1 ?_|refine G.r2 ?_|refine G.r3 ?_|refine G.r0 ?_|refine G.d0 ?_);(try simp (disch:=first|exact dis|fail) only [push_cast,↓reduceIte,zq1,zq2,zq3,zq4,zq5,fct])
        (first|exact hS|exact ⟨rfl,hS⟩)
    | true =>
      cases hm:m (cutT 32 rest).1 with
      | none =>
        (have fct:=(And.intro @h1 (And.intro @h2 (And.intro @ht (And.intro @hg @hm))));repeat' (first|((with_reducible apply G.a);exact rfl)|refine G.reg fun K hK=>?_|(with_reducible (refine hK _ _ ?_);clear hK K)|(have hk:=hK;clear hk;simp (disch:=first|exact dis|fail) only [push_cast,↓reduceIte,zq1,zq2,zq3,zq4,zq5,fct])|(refine brO_n ?_ ?_<;>intro hb hc<;>first|(with_reducible exact False.elim hc)|(exfalso;omega)|(simp only [hb];clear hb))|((with_reducible refine gSt ?_);refine zs2 ?_;intro wb hS)|(refine zcp 44 (cut_spec rest 32 _ (by omega)) ?_;intro wb hS)|(refine zcp 16 (unspellL_spec _ _ (by omega)) ?_;intro wb hS)|(refine zcp 65 (lnamed_spec _ _ (by omega)) ?_;intro wb hS)|(refine zlk ?_)|(refine zn5 ?_)|(refine zmu ?_;intro wb hS)|(refine G.cn ?_ ?_<;>intro hc<;>first|(with_reducible exact False.elim hc)|(exfalso;omega)|skip)))<;>(try clear fct)
        all_goals
          (first|refine G.r1 ?_|refine G.r2 ?_|refine G.r3 ?_|refine G.r0 ?_|refine G.d0 ?_);(try simp (disch:=first|exact dis|fail) only [push_cast,↓reduceIte,zq1,zq2,zq3,zq4,zq5,fct])
          (first|exact hS|exact ⟨rfl,hS⟩)
      | some t0 =>
        have htb:=hmb _ _ hm
        (have fct:=(And.intro @h1 (And.intro @h2 (And.intro @ht (And.intro @hg @hm))));repeat' (first|((with_reducible apply G.a);exact rfl)|refine G.reg fun K hK=>?_|(with_reducible (refine hK _ _ ?_);clear hK K)|(have hk:=hK;clear hk;simp (disch:=first|exact dis|fail) only [push_cast,↓reduceIte,zq1,zq2,zq3,zq4,zq5,fct])|(refine brO_n ?_ ?_<;>intro hb hc<;>first|(with_reducible exact False.elim hc)|(exfalso;omega)|(simp only [hb];clear hb))|((with_reducible refine gSt ?_);refine zs2 ?_;intro wb hS)|(refine zcp 44 (cut_spec rest 32 _ (by omega)) ?_;intro wb hS)|(refine zcp 16 (unspellL_spec _ _ (by omega)) ?_;intro wb hS)|(refine zcp 65 (lnamed_spec _ _ (by omega)) ?_;intro wb hS)|(refine zlk ?_)|(refine zn5 ?_)|(refine zmu ?_;intro wb hS)|(refine G.cn ?_ ?_<;>intro hc<;>first|(with_reducible exact False.elim hc)|(exfalso;omega)|skip)))<;>(try clear fct)
        all_goals
          (first|refine G.r1 ?_|refine G.r2 ?_|refine G.r3 ?_|refine G.r0 ?_|refine G.d0 ?_);(try simp (disch:=first|exact dis|fail) only [push_cast,↓reduceIte,zq1,zq2,zq3,zq4,zq5,fct])
          (first|exact hS|exact ⟨rfl,hS⟩)
  · simp at hp
end
end Go.Proofs.YtllanbmpacgigaaGreatDoor
namespace Go.Proofs.YtllanbmpacgigaaGreatDoor
open Nat renaming reduceAdd→zq1,reduceLeDiff→zq2,reduceEqDiff→zq3,reduceLT→zq4
open Int renaming reduceToNat→zq5
set_option linter.unusedSimpArgs false
set_option linter.unusedVariables false
attribute [local irreducible] SemK UnitK StK AlcK BslK CallK CallV Instr.box Builtin.append_ Instr.makeSlice Instr.makeMap Instr.lookup Instr.mapUpdate Instr.sliceAt convert
open Go.RowKit
section
variable {g:Nat} {L L':List Chk} {w w0:World} {v1:Str} {v2:Int}
theorem no_clear {s v rest:Str} (h:cutT 32 s=(v,rest,true)):(s == [99,108,101,97,114])=false:=by
  rw [beq_eq_false_iff_ne]
  rintro rfl
  rw [show cutT 32 [99,108,101,97,114]=([99,108,101,97,114],[],false) by decide] at h
  simp at h
def c29:MC:=(.seq (.reg [qq 4 (.mv (.const (S []))),qq 5 (.mv (ki 0))]) (.seq (.seq (.reg [qm 9 1,qq 10 (.bin .eql (.tmp 9) (.const (S [99,108,101,97,114])))]) (.cond (.tmp 10) (.seq (.reg [qm 11 0,qq 12 (.nck (.tmp 11)),qq 13 (.fad 3 (.tmp 12)),qn (.st 1 (.tmp 13) (.const (.slice none 0 0)))]) (.seq (.reg [qq 4 (.mv (.const (S [111,107]))),qq 5 (.mv (ki 0))]) .ret)) .skip)) (.seq (.reg [qm 15 1,qq 16 (.call 44 [(.tmp 15),(.const (S [32]))]),qm 14 16,qq 17 (.ext 0 (.tmp 14)),qq 18 (.ext 1 (.tmp 14)),qq 19 (.ext 2 (.tmp 14)),qm 6 17,qm 7 18,qm 8 19]) (.seq (.seq (.reg [qm 20 8,qq 21 (.un .not (.tmp 20))]) (.cond (.tmp 21) (.seq (.reg [qq 4 (.mv (.const (S []))),qq 5 (.mv (ki 23))]) .ret) .skip)) (.seq (.seq (.reg [qm 22 6]) (.blk 0 (.seq (.reg [qq 24 (.bin .eql (.tmp 22) (.const (S [100,105,97,108,101,99,116]))),qm 23 24]) (.cond (.tmp 23) (.seq (.reg [qm 25 0,qm 26 7,qq 27 (.call 45 [(.tmp 25),(.tmp 26)]),qq 28 (.ext 0 (.tmp 27)),qq 29 (.ext 1 (.tmp 27)),qm 4 28,qm 5 29]) .ret) (.seq (.reg [qq 31 (.bin .eql (.tmp 22) (.const (S [99,111,108,117,109,110]))),qm 30 31]) (.cond (.tmp 30) (.seq (.reg [qm 32 0,qm 33 7,qq 34 (.call 46 [(.tmp 32),(.tmp 33)]),qq 35 (.ext 0 (.tmp 34)),qq 36 (.ext 1 (.tmp 34)),qm 4 35,qm 5 36]) .ret) (.seq (.seq (.reg [qq 38 (.bin .eql (.tmp 22) (.const (S [112,117,116]))),qm 37 38]) (.cond (.tmp 37) .skip (.reg [qq 39 (.bin .eql (.tmp 22) (.const (S [97,100,100]))),qm 37 39]))) (.cond (.tmp 37) (.seq (.reg [qm 40 0,qm 41 7,qm 42 6,qq 43 (.bin .eql (.tmp 42) (.const (S [97,100,100]))),qq 44 (.call 47 [(.tmp 40),(.tmp 41),(.tmp 43)]),qq 45 (.ext 0 (.tmp 44)),qq 46 (.ext 1 (.tmp 44)),qm 4 45,qm 5 46]) .ret) (.seq (.reg [qq 48 (.bin .eql (.tmp 22) (.const (S [103,101,116]))),qm 47 48]) (.cond (.tmp 47) (.seq (.reg [qm 49 0,qm 50 7,qq 51 (.call 48 [(.tmp 49),(.tmp 50)]),qq 52 (.ext 0 (.tmp 51)),qq 53 (.ext 1 (.tmp 51)),qm 4 52,qm 5 53]) .ret) (.seq (.reg [qq 55 (.bin .eql (.tmp 22) (.const (S [115,101,116]))),qm 54 55]) (.cond (.tmp 54) (.seq (.reg [qm 56 0,qm 57 7,qq 58 (.call 49 [(.tmp 56),(.tmp 57)]),qq 59 (.ext 0 (.tmp 58)),qq 60 (.ext 1 (.tmp 58)),qm 4 59,qm 5 60]) .ret) (.seq (.reg [qq 62 (.bin .eql (.tmp 22) (.const (S [100,105,102,102]))),qm 61 62]) (.cond (.tmp 61) (.seq (.reg [qm 63 0,qm 64 7,qq 65 (.call 50 [(.tmp 63),(.tmp 64)]),qq 66 (.ext 0 (.tmp 65)),qq 67 (.ext 1 (.tmp 65)),qm 4 66,qm 5 67]) .ret) (.seq (.seq (.reg [qq 69 (.bin .eql (.tmp 22) (.const (S [115,104,111,119]))),qm 68 69]) (.cond (.tmp 68) .skip (.seq (.reg [qq 70 (.bin .eql (.tmp 22) (.const (S [99,104,101,99,107]))),qm 68 70]) (.cond (.tmp 68) .skip (.seq (.reg [qq 71 (.bin .eql (.tmp 22) (.const (S [112,108,97,105,110]))),qm 68 71]) (.cond (.tmp 68) .skip (.seq (.reg [qq 72 (.bin .eql (.tmp 22) (.const (S [115,110,105,102,102]))),qm 68 72]) (.cond (.tmp 68) .skip (.reg [qq 73 (.bin .eql (.tmp 22) (.const (S [114,111,119,115]))),qm 68 73]))))))))) (.cond (.tmp 68) (.seq (.reg [qm 74 0,qm 75 6,qm 76 7,qq 77 (.call 51 [(.tmp 74),(.tmp 75),(.tmp 76)]),qq 78 (.ext 0 (.tmp 77)),qq 79 (.ext 1 (.tmp 77)),qm 4 78,qm 5 79]) .ret) .skip)))))))))))))))) (.seq (.reg [qq 4 (.mv (.const (S []))),qq 5 (.mv (ki 23))]) .ret))))))
theorem k29:conv Tryz.prog 80 (Tryz.f29.body.getD .skip)=c29:=by kernel_rfl
theorem in29 {a0 a1:Value} {w:World} {R:Value→World→Prop} (h:G Tryz.prog Tryz.f29 80 [.c c29] R (frL 0 [a0,a1]) w):Ret Tryz.prog 29 #[a0,a1] w R:=G.enter (args:=[a0,a1]) Tryz.func29 (c:=Tryz.f29.body.getD .skip) (by kernel_rfl) (by kernel_rfl) (by simp) k29 h
theorem line_dialect (s rest:Str) (hc:cutT 32 s=([100,105,97,108,101,99,116],rest,true)) (hl:s.length≤1000000) (hcall:∀ w,Sep w0 w L→Ret Tryz.prog 45 #[(.pointer (some ⟨g,0,none⟩)),S rest] w fun res w'=>res=.tuple #[S v1,I v2]∧Sep w0 w' L') (hS:Sep w0 w L) :
    Ret Tryz.prog 29 #[(.pointer (some ⟨g,0,none⟩)),S s] w fun v w'=>v=.tuple #[S v1,I v2]∧Sep w0 w' L':=by
  refine in29 ?_
  have hcu:=fun w=>cut_spec s 32 w (by omega)
  rw [hc] at hcu
  dsimp only at hcu
  have e0:=no_clear hc
  skip
  (have fct:=@e0;repeat' (first|((with_reducible apply G.a);exact rfl)|refine G.reg fun K hK=>?_|(with_reducible (refine hK _ _ ?_);clear hK K)|(have hk:=hK;clear hk;simp (disch:=first|exact dis|fail) only [push_cast,↓reduceIte,zq1,zq2,zq3,zq4,zq5,fct])|(refine brO_n ?_ ?_<;>intro hb hc<;>first|(with_reducible exact False.elim hc)|(exfalso;omega)|(simp only [hb];clear hb))|((first|refine zalc ?_|refine zbsl ?_|((with_reducible refine gBox ?_);refine zbox ?_));intro gb wb hS)|((with_reducible refine gSt ?_);refine zs2 ?_;intro wb hS)|(refine zcv ?_)|(refine zcp 44 (hcu _) ?_;intro wb hS)|(refine zco 45 (hcall _ hS) ?_;rintro vb wb ⟨rfl,hS⟩)|(refine G.cn ?_ ?_<;>intro hc<;>first|(with_reducible exact False.elim hc)|(exfalso;omega)|skip)))<;>(try clear fct)
  all_goals
    (first|refine G.r1 ?_|refine G.r2 ?_|refine G.r3 ?_|refine G.r0 ?_|refine G.d0 ?_);(try simp (disch:=first|exact dis|fail) only [push_cast,↓reduceIte,zq1,zq2,zq3,zq4,zq5,fct])
    (first|exact hS|exact ⟨rfl,hS⟩)
theorem line_put (s rest:Str) (hc:cutT 32 s=([112,117,116],rest,true)) (hl:s.length≤1000000) (hcall:∀ w,Sep w0 w L→Ret Tryz.prog 47 #[(.pointer (some ⟨g,0,none⟩)),S rest,.bool false] w fun res w'=>res=.tuple #[S v1,I v2]∧Sep w0 w' L') (hS:Sep w0 w L) :
    Ret Tryz.prog 29 #[(.pointer (some ⟨g,0,none⟩)),S s] w fun v w'=>v=.tuple #[S v1,I v2]∧Sep w0 w' L':=by
  refine in29 ?_
  have hcu:=fun w=>cut_spec s 32 w (by omega)
  rw [hc] at hcu
  dsimp only at hcu
  have e0:=no_clear hc
  have n0:(([112,117,116]:Str) == [100,105,97,108,101,99,116])=false:=(by decide);have n1:(([112,117,116]:Str) == [99,111,108,117,109,110])=false:=(by decide);have n2:(([112,117,116]:Str) == [97,100,100])=false:=(by decide)
  (have fct:=(And.intro @e0 (And.intro @n0 (And.intro @n1 @n2)));repeat' (first|((with_reducible apply G.a);exact rfl)|refine G.reg fun K hK=>?_|(with_reducible (refine hK _ _ ?_);clear hK K)|(have hk:=hK;clear hk;simp (disch:=first|exact dis|fail) only [push_cast,↓reduceIte,zq1,zq2,zq3,zq4,zq5,fct])|(refine brO_n ?_ ?_<;>intro hb hc<;>first|(with_reducible exact False.elim hc)|(exfalso;omega)|(simp only [hb];clear hb))|((first|refine zalc ?_|refine zbsl ?_|((with_reducible refine gBox ?_);refine zbox ?_));intro gb wb hS)|((with_reducible refine gSt ?_);refine zs2 ?_;intro wb hS)|(refine zcv ?_)|(refine zcp 44 (hcu _) ?_;intro wb hS)|(refine zco 47 (hcall _ hS) ?_;rintro vb wb ⟨rfl,hS⟩)|(refine G.cn ?_ ?_<;>intro hc<;>first|(with_reducible exact False.elim hc)|(exfalso;omega)|skip)))<;>(try clear fct)
  all_goals
    (first|refine G.r1 ?_|refine G.r2 ?_|refine G.r3 ?_|refine G.r0 ?_|refine G.d0 ?_);(try simp (disch:=first|exact dis|fail) only [push_cast,↓reduceIte,zq1,zq2,zq3,zq4,zq5,fct])
    (first|exact hS|exact ⟨rfl,hS⟩)
theorem line_add (s rest:Str) (hc:cutT 32 s=([97,100,100],rest,true)) (hl:s.length≤1000000) (hcall:∀ w,Sep w0 w L→Ret Tryz.prog 47 #[(.pointer (some ⟨g,0,none⟩)),S rest,.bool true] w fun res w'=>res=.tuple #[S v1,I v2]∧Sep w0 w' L') (hS:Sep w0 w L) :
    Ret Tryz.prog 29 #[(.pointer (some ⟨g,0,none⟩)),S s] w fun v w'=>v=.tuple #[S v1,I v2]∧Sep w0 w' L':=by
  refine in29 ?_
  have hcu:=fun w=>cut_spec s 32 w (by omega)
  rw [hc] at hcu
  dsimp only at hcu
  have e0:=no_clear hc
  have n0:(([97,100,100]:Str) == [100,105,97,108,101,99,116])=false:=(by decide);have n1:(([97,100,100]:Str) == [99,111,108,117,109,110])=false:=(by decide);have n2:(([97,100,100]:Str) == [112,117,116])=false:=(by decide)
  (have fct:=(And.intro @e0 (And.intro @n0 (And.intro @n1 @n2)));repeat' (first|((with_reducible apply G.a);exact rfl)|refine G.reg fun K hK=>?_|(with_reducible (refine hK _ _ ?_);clear hK K)|(have hk:=hK;clear hk;simp (disch:=first|exact dis|fail) only [push_cast,↓reduceIte,zq1,zq2,zq3,zq4,zq5,fct])|(refine brO_n ?_ ?_<;>intro hb hc<;>first|(with_reducible exact False.elim hc)|(exfalso;omega)|(simp only [hb];clear hb))|((first|refine zalc ?_|refine zbsl ?_|((with_reducible refine gBox ?_);refine zbox ?_));intro gb wb hS)|((with_reducible refine gSt ?_);refine zs2 ?_;intro wb hS)|(refine zcv ?_)|(refine zcp 44 (hcu _) ?_;intro wb hS)|(refine zco 47 (hcall _ hS) ?_;rintro vb wb ⟨rfl,hS⟩)|(refine G.cn ?_ ?_<;>intro hc<;>first|(with_reducible exact False.elim hc)|(exfalso;omega)|skip)))<;>(try clear fct)
  all_goals
    (first|refine G.r1 ?_|refine G.r2 ?_|refine G.r3 ?_|refine G.r0 ?_|refine G.d0 ?_);(try simp (disch:=first|exact dis|fail) only [push_cast,↓reduceIte,zq1,zq2,zq3,zq4,zq5,fct])
    (first|exact hS|exact ⟨rfl,hS⟩)
theorem line_get (s rest:Str) (hc:cutT 32 s=([103,101,116],rest,true)) (hl:s.length≤1000000) (hcall:∀ w,Sep w0 w L→Ret Tryz.prog 48 #[(.pointer (some ⟨g,0,none⟩)),S rest] w fun res w'=>res=.tuple #[S v1,I v2]∧Sep w0 w' L') (hS:Sep w0 w L) :
    Ret Tryz.prog 29 #[(.pointer (some ⟨g,0,none⟩)),S s] w fun v w'=>v=.tuple #[S v1,I v2]∧Sep w0 w' L':=by
  refine in29 ?_
  have hcu:=fun w=>cut_spec s 32 w (by omega)
  rw [hc] at hcu
  dsimp only at hcu
  have e0:=no_clear hc
  have n0:(([103,101,116]:Str) == [100,105,97,108,101,99,116])=false:=(by decide);have n1:(([103,101,116]:Str) == [99,111,108,117,109,110])=false:=(by decide);have n2:(([103,101,116]:Str) == [112,117,116])=false:=(by decide);have n3:(([103,101,116]:Str) == [97,100,100])=false:=(by decide)
  (have fct:=(And.intro @e0 (And.intro @n0 (And.intro @n1 (And.intro @n2 @n3))));repeat' (first|((with_reducible apply G.a);exact rfl)|refine G.reg fun K hK=>?_|(with_reducible (refine hK _ _ ?_);clear hK K)|(have hk:=hK;clear hk;simp (disch:=first|exact dis|fail) only [push_cast,↓reduceIte,zq1,zq2,zq3,zq4,zq5,fct])|(refine brO_n ?_ ?_<;>intro hb hc<;>first|(with_reducible exact False.elim hc)|(exfalso;omega)|(simp only [hb];clear hb))|((first|refine zalc ?_|refine zbsl ?_|((with_reducible refine gBox ?_);refine zbox ?_));intro gb wb hS)|((with_reducible refine gSt ?_);refine zs2 ?_;intro wb hS)|(refine zcv ?_)|(refine zcp 44 (hcu _) ?_;intro wb hS)|(refine zco 48 (hcall _ hS) ?_;rintro vb wb ⟨rfl,hS⟩)|(refine G.cn ?_ ?_<;>intro hc<;>first|(with_reducible exact False.elim hc)|(exfalso;omega)|skip)))<;>(try clear fct)
  all_goals
    (first|refine G.r1 ?_|refine G.r2 ?_|refine G.r3 ?_|refine G.r0 ?_|refine G.d0 ?_);(try simp (disch:=first|exact dis|fail) only [push_cast,↓reduceIte,zq1,zq2,zq3,zq4,zq5,fct])
    (first|exact hS|exact ⟨rfl,hS⟩)
theorem line_show (s rest:Str) (hc:cutT 32 s=([115,104,111,119],rest,true)) (hl:s.length≤1000000) (hcall:∀ w,Sep w0 w L→Ret Tryz.prog 51 #[(.pointer (some ⟨g,0,none⟩)),S [115,104,111,119],S rest] w fun res w'=>res=.tuple #[S v1,I v2]∧Sep w0 w' L') (hS:Sep w0 w L) :
    Ret Tryz.prog 29 #[(.pointer (some ⟨g,0,none⟩)),S s] w fun v w'=>v=.tuple #[S v1,I v2]∧Sep w0 w' L':=by
  refine in29 ?_
  have hcu:=fun w=>cut_spec s 32 w (by omega)
  rw [hc] at hcu
  dsimp only at hcu
  have e0:=no_clear hc
  have n0:(([115,104,111,119]:Str) == [100,105,97,108,101,99,116])=false:=(by decide);have n1:(([115,104,111,119]:Str) == [99,111,108,117,109,110])=false:=(by decide);have n2:(([115,104,111,119]:Str) == [112,117,116])=false:=(by decide);have n3:(([115,104,111,119]:Str) == [97,100,100])=false:=(by decide);have n4:(([115,104,111,119]:Str) == [103,101,116])=false:=(by decide);have n5:(([115,104,111,119]:Str) == [115,101,116])=false:=(by decide);have n6:(([115,104,111,119]:Str) == [100,105,102,102])=false:=(by decide)
  (have fct:=(And.intro @e0 (And.intro @n0 (And.intro @n1 (And.intro @n2 (And.intro @n3 (And.intro @n4 (And.intro @n5 @n6)))))));repeat' (first|((with_reducible apply G.a);exact rfl)|refine G.reg fun K hK=>?_|(with_reducible (refine hK _ _ ?_);clear hK K)|(have hk:=hK;clear hk;simp (disch:=first|exact dis|fail) only [push_cast,↓reduceIte,zq1,zq2,zq3,zq4,zq5,fct])|(refine brO_n ?_ ?_<;>intro hb hc<;>first|(with_reducible exact False.elim hc)|(exfalso;omega)|(simp only [hb];clear hb))|((first|refine zalc ?_|refine zbsl ?_|((with_reducible refine gBox ?_);refine zbox ?_));intro gb wb hS)|((with_reducible refine gSt ?_);refine zs2 ?_;intro wb hS)|(refine zcv ?_)|(refine zcp 44 (hcu _) ?_;intro wb hS)|(refine zco 51 (hcall _ hS) ?_;rintro vb wb ⟨rfl,hS⟩)|(refine G.cn ?_ ?_<;>intro hc<;>first|(with_reducible exact False.elim hc)|(exfalso;omega)|skip)))<;>(try clear fct)
  all_goals
    (first|refine G.r1 ?_|refine G.r2 ?_|refine G.r3 ?_|refine G.r0 ?_|refine G.d0 ?_);(try simp (disch:=first|exact dis|fail) only [push_cast,↓reduceIte,zq1,zq2,zq3,zq4,zq5,fct])
    (first|exact hS|exact ⟨rfl,hS⟩)
theorem line_check (s rest:Str) (hc:cutT 32 s=([99,104,101,99,107],rest,true)) (hl:s.length≤1000000) (hcall:∀ w,Sep w0 w L→Ret Tryz.prog 51 #[(.pointer (some ⟨g,0,none⟩)),S [99,104,101,99,107],S rest] w fun res w'=>res=.tuple #[S v1,I v2]∧Sep w0 w' L') (hS:Sep w0 w L) :
    Ret Tryz.prog 29 #[(.pointer (some ⟨g,0,none⟩)),S s] w fun v w'=>v=.tuple #[S v1,I v2]∧Sep w0 w' L':=by
  refine in29 ?_
  have hcu:=fun w=>cut_spec s 32 w (by omega)
  rw [hc] at hcu
  dsimp only at hcu
  have e0:=no_clear hc
  have n0:(([99,104,101,99,107]:Str) == [100,105,97,108,101,99,116])=false:=(by decide);have n1:(([99,104,101,99,107]:Str) == [99,111,108,117,109,110])=false:=(by decide);have n2:(([99,104,101,99,107]:Str) == [112,117,116])=false:=(by decide);have n3:(([99,104,101,99,107]:Str) == [97,100,100])=false:=(by decide);have n4:(([99,104,101,99,107]:Str) == [103,101,116])=false:=(by decide);have n5:(([99,104,101,99,107]:Str) == [115,101,116])=false:=(by decide);have n6:(([99,104,101,99,107]:Str) == [100,105,102,102])=false:=(by decide);have n7:(([99,104,101,99,107]:Str) == [115,104,111,119])=false:=(by decide)
  (have fct:=(And.intro @e0 (And.intro @n0 (And.intro @n1 (And.intro @n2 (And.intro @n3 (And.intro @n4 (And.intro @n5 (And.intro @n6 @n7))))))));repeat' (first|((with_reducible apply G.a);exact rfl)|refine G.reg fun K hK=>?_|(with_reducible (refine hK _ _ ?_);clear hK K)|(have hk:=hK;clear hk;simp (disch:=first|exact dis|fail) only [push_cast,↓reduceIte,zq1,zq2,zq3,zq4,zq5,fct])|(refine brO_n ?_ ?_<;>intro hb hc<;>first|(with_reducible exact False.elim hc)|(exfalso;omega)|(simp only [hb];clear hb))|((first|refine zalc ?_|refine zbsl ?_|((with_reducible refine gBox ?_);refine zbox ?_));intro gb wb hS)|((with_reducible refine gSt ?_);refine zs2 ?_;intro wb hS)|(refine zcv ?_)|(refine zcp 44 (hcu _) ?_;intro wb hS)|(refine zco 51 (hcall _ hS) ?_;rintro vb wb ⟨rfl,hS⟩)|(refine G.cn ?_ ?_<;>intro hc<;>first|(with_reducible exact False.elim hc)|(exfalso;omega)|skip)))<;>(try clear fct)
  all_goals
    (first|refine G.r1 ?_|refine G.r2 ?_|refine G.r3 ?_|refine G.r0 ?_|refine G.d0 ?_);(try simp (disch:=first|exact dis|fail) only [push_cast,↓reduceIte,zq1,zq2,zq3,zq4,zq5,fct])
    (first|exact hS|exact ⟨rfl,hS⟩)
theorem line_plain (s rest:Str) (hc:cutT 32 s=([112,108,97,105,110],rest,true)) (hl:s.length≤1000000) (hcall:∀ w,Sep w0 w L→Ret Tryz.prog 51 #[(.pointer (some ⟨g,0,none⟩)),S [112,108,97,105,110],S rest] w fun res w'=>res=.tuple #[S v1,I v2]∧Sep w0 w' L') (hS:Sep w0 w L) :
    Ret Tryz.prog 29 #[(.pointer (some ⟨g,0,none⟩)),S s] w fun v w'=>v=.tuple #[S v1,I v2]∧Sep w0 w' L':=by
  refine in29 ?_
  have hcu:=fun w=>cut_spec s 32 w (by omega)
  rw [hc] at hcu
  dsimp only at hcu
  have e0:=no_clear hc
  have n0:(([112,108,97,105,110]:Str) == [100,105,97,108,101,99,116])=false:=(by decide);have n1:(([112,108,97,105,110]:Str) == [99,111,108,117,109,110])=false:=(by decide);have n2:(([112,108,97,105,110]:Str) == [112,117,116])=false:=(by decide);have n3:(([112,108,97,105,110]:Str) == [97,100,100])=false:=(by decide);have n4:(([112,108,97,105,110]:Str) == [103,101,116])=false:=(by decide);have n5:(([112,108,97,105,110]:Str) == [115,101,116])=false:=(by decide);have n6:(([112,108,97,105,110]:Str) == [100,105,102,102])=false:=(by decide);have n7:(([112,108,97,105,110]:Str) == [115,104,111,119])=false:=(by decide);have n8:(([112,108,97,105,110]:Str) == [99,104,101,99,107])=false:=(by decide)
  (have fct:=(And.intro @e0 (And.intro @n0 (And.intro @n1 (And.intro @n2 (And.intro @n3 (And.intro @n4 (And.intro @n5 (And.intro @n6 (And.intro @n7 @n8)))))))));repeat' (first|((with_reducible apply G.a);exact rfl)|refine G.reg fun K hK=>?_|(with_reducible (refine hK _ _ ?_);clear hK K)|(have hk:=hK;clear hk;simp (disch:=first|exact dis|fail) only [push_cast,↓reduceIte,zq1,zq2,zq3,zq4,zq5,fct])|(refine brO_n ?_ ?_<;>intro hb hc<;>first|(with_reducible exact False.elim hc)|(exfalso;omega)|(simp only [hb];clear hb))|((first|refine zalc ?_|refine zbsl ?_|((with_reducible refine gBox ?_);refine zbox ?_));intro gb wb hS)|((with_reducible refine gSt ?_);refine zs2 ?_;intro wb hS)|(refine zcv ?_)|(refine zcp 44 (hcu _) ?_;intro wb hS)|(refine zco 51 (hcall _ hS) ?_;rintro vb wb ⟨rfl,hS⟩)|(refine G.cn ?_ ?_<;>intro hc<;>first|(with_reducible exact False.elim hc)|(exfalso;omega)|skip)))<;>(try clear fct)
  all_goals
    (first|refine G.r1 ?_|refine G.r2 ?_|refine G.r3 ?_|refine G.r0 ?_|refine G.d0 ?_);(try simp (disch:=first|exact dis|fail) only [push_cast,↓reduceIte,zq1,zq2,zq3,zq4,zq5,fct])
    (first|exact hS|exact ⟨rfl,hS⟩)
def ansM (v1:Str) (v2:Int):Str:=if v2=0 then v1 else [101,114,114,111,114,32]++Lib.itoa v2
def c11:MC:=(.seq (.reg [qq 4 (.mv (.const (S [])))]) (.seq (.reg [qm 8 0,qm 9 1,qq 10 (.call 29 [(.tmp 8),(.tmp 9)]),qm 7 10,qq 11 (.ext 0 (.tmp 7)),qq 12 (.ext 1 (.tmp 7)),qm 5 11,qm 6 12]) (.seq (.seq (.reg [qm 13 6,qq 14 (.bin .neq (.tmp 13) (ki 0))]) (.cond (.tmp 14) (.seq (.reg [qm 15 6,qq 16 (.call 30 [(.tmp 15)]),qq 17 (.bin .add (.const (S [101,114,114,111,114,32])) (.tmp 16)),qm 4 17]) .ret) .skip)) (.seq (.reg [qm 18 5,qm 4 18]) .ret))))
theorem k11:conv Tryz.prog 19 (Tryz.f11.body.getD .skip)=c11:=by kernel_rfl
theorem in11 {a0 a1:Value} {w:World} {R:Value→World→Prop} (h:G Tryz.prog Tryz.f11 19 [.c c11] R (frL 0 [a0,a1]) w):Ret Tryz.prog 11 #[a0,a1] w R:=G.enter (args:=[a0,a1]) Tryz.func11 (c:=Tryz.f11.body.getD .skip) (by kernel_rfl) (by kernel_rfl) (by simp) k11 h
theorem Line_of (s:Str) (hb:-9223372036854775808≤v2∧v2≤9223372036854775807) (hT:v2=0∨Tab w0) (hcall:∀ w,Sep w0 w L→Ret Tryz.prog 29 #[(.pointer (some ⟨g,0,none⟩)),S s] w fun res w'=>res=.tuple #[S v1,I v2]∧Sep w0 w' L') (hS:Sep w0 w L) :
    Ret Tryz.prog 11 #[(.pointer (some ⟨g,0,none⟩)),S s] w fun v w'=>v=S (ansM v1 v2)∧Sep w0 w' L':=by
  refine in11 ?_
  unfold ansM
  by_cases h2:v2=0
  · rw [if_pos h2]
    (have fct:=@h2;repeat' (first|((with_reducible apply G.a);exact rfl)|refine G.reg fun K hK=>?_|(with_reducible (refine hK _ _ ?_);clear hK K)|(have hk:=hK;clear hk;simp (disch:=first|exact dis|fail) only [push_cast,↓reduceIte,zq1,zq2,zq3,zq4,zq5,fct])|(refine zco 29 (hcall _ hS) ?_;rintro vb wb ⟨rfl,hS⟩)|(refine G.cn ?_ ?_<;>intro hc<;>first|(with_reducible exact False.elim hc)|(exfalso;omega)|skip)))<;>(try clear fct)
    all_goals
      (first|refine G.r1 ?_|refine G.r2 ?_|refine G.r3 ?_|refine G.r0 ?_|refine G.d0 ?_);(try simp (disch:=first|exact dis|fail) only [push_cast,↓reduceIte,zq1,zq2,zq3,zq4,zq5,fct])
      (first|exact hS|exact ⟨rfl,hS⟩)
  · rw [if_neg h2]
    have hT:=hT.resolve_left h2
    have hln:=itoa_ln v2 hb.1 hb.2
    repeat' (first|((with_reducible apply G.a);exact rfl)|refine G.reg fun K hK=>?_|(with_reducible (refine hK _ _ ?_);clear hK K)|(have hk:=hK;clear hk;simp (disch:=first|exact dis|fail) only [push_cast,↓reduceIte,zq1,zq2,zq3,zq4,zq5,fct])|(refine zco 29 (hcall _ hS) ?_;rintro vb wb ⟨rfl,hS⟩)|(refine zcp 30 (itoa_spec v2 _ hb.1 hb.2 (hT.ext (Sep.xt (by assumption)))) ?_;intro wb hS)|(refine G.cn ?_ ?_<;>intro hc<;>first|(with_reducible exact False.elim hc)|(exfalso;omega)|skip))
    all_goals
      (first|refine G.r1 ?_|refine G.r2 ?_|refine G.r3 ?_|refine G.r0 ?_|refine G.d0 ?_);(try simp (disch:=first|exact dis|fail) only [push_cast,↓reduceIte,zq1,zq2,zq3,zq4,zq5,fct])
      (first|exact hS|exact ⟨rfl,hS⟩)
end
end Go.Proofs.YtllanbmpacgigaaGreatDoor
namespace Go.Proofs.YtllanbmpacgigaaGreatDoor
open Nat renaming reduceAdd→zq1,reduceLeDiff→zq2,reduceEqDiff→zq3,reduceLT→zq4
open Int renaming reduceToNat→zq5
set_option linter.unusedSimpArgs false
set_option linter.unusedVariables false
attribute [local irreducible] SemK UnitK StK AlcK BslK CallK CallV Instr.box Builtin.append_ Instr.makeSlice Instr.makeMap Instr.lookup Instr.mapUpdate Instr.sliceAt convert
open Go.RowKit
theorem Sub.rot {x:Chk}:∀ L:List Chk,Sub (L++[x]) (x :: L)
  | []=>.c .h .n
  | _ :: L=>.c (.t .h) (Sub.rot L)
theorem Ex.last {x:Chk}:∀ L:List Chk,Ex x (L++[x]) L
  | []=>.h
  | _ :: L=>.t (Ex.last L)
theorem Sub.all:∀ L:List Chk,Sub L L
  | []=>.n
  | _ :: L=>.c .h (Sub.all L)
theorem Sub.tor {x:Chk} (L:List Chk):Sub (x :: L) (L++[x]):=.c (Ex.last L) (Sub.all L)
def c10:MC:=(.seq (.reg [qq 0 (.mv (.const (.pointer none)))]) (.seq (.reg [qq 1 (.bld [(.int .u8 0),(.int .u8 0),(.int .i64 0)] [⟨0,⟨1,(.const (.int .u8 44))⟩⟩,⟨1,⟨1,(.const (.int .u8 34))⟩⟩,⟨2,⟨1,(ki 1)⟩⟩]),qq 2 (.raw (.makeMap 52 none) 52),qq 3 (.bld [(.int .u8 0),(.int .u8 0),(.int .i64 0),(.slice none 0 0),(.map none)] [⟨0,⟨3,(.tmp 1)⟩⟩,⟨4,⟨1,(.tmp 2)⟩⟩]),qq 4 (.raw (.box 55 (.tmp 3)) 25),qm 0 4]) .ret))
theorem k10:conv Tryz.prog 5 (Tryz.f10.body.getD .skip)=c10:=by kernel_rfl
theorem in10 {w:World} {R:Value→World→Prop} (h:G Tryz.prog Tryz.f10 5 [.c c10] R (frL 0 []) w):Ret Tryz.prog 10 #[] w R:=G.enter (args:=[]) Tryz.func10 (c:=Tryz.f10.body.getD .skip) (by kernel_rfl) (by kernel_rfl) (by simp) k10 h
theorem open30_spec (w:World):Ret Tryz.prog 10 #[] w fun v w'=>∃ g r,v=(.pointer (some ⟨g,0,none⟩))∧Sep w w' [boxC g 55 [U 44,U 34,I 1,.slice none 0 0,.map (some r)],mapC r S (fun _=>none)]:=by
  refine in10 ?_
  have hS:=Sep.start w
  repeat' (first|((with_reducible apply G.a);exact rfl)|refine G.reg fun K hK=>?_|(with_reducible (refine hK _ _ ?_);clear hK K)|(have hk:=hK;clear hk;simp (disch:=first|exact dis|fail) only [push_cast,↓reduceIte,zq1,zq2,zq3,zq4,zq5,fct])|(((with_reducible refine gBox ?_);refine zbox ?_);intro gb wb hS)|(refine zmm S ?_;intro gb wb hS))
  all_goals
    (first|refine G.r1 ?_|refine G.r2 ?_|refine G.r3 ?_|refine G.r0 ?_|refine G.d0 ?_);(try simp (disch:=first|exact dis|fail) only [push_cast,↓reduceIte,zq1,zq2,zq3,zq4,zq5,fct])
    exact ⟨_,_,rfl,(Sep.sub hS (by repeat first|exact Sub.rfl'|exact Sub.n|(refine Sub.c (by repeat constructor) ?_)|refine Sub.skip ?_))⟩
def c13l1:MC:=(.seq (.reg [qq 11 (.bin .lss (.tmp 10) (.tmp 9))]) (.seq (.cond (.tmp 11) .skip (.exit 0)) (.seq (.blk 1 (.seq (.reg [qq 12 (.adr 1 (.tmp 8) (.tmp 10)),qq 13 (.ld none (.tmp 12)),qm 6 13]) (.reg [qm 14 4,qm 15 3,qm 16 6,qq 17 (.call 11 [(.tmp 15),(.tmp 16)]),qq 18 (.bsl 9 [(S [])] 1 [⟨0,⟨1,(.tmp 17)⟩⟩]),qq 19 (.raw (.call ⟨(.builtin .append),#[(.tmp 14),(.tmp 18)],#[22,22]⟩) 22),qm 4 19]))) (.reg [qq 20 (.bin .add (.tmp 10) (ki 1)),qm 10 20]))))
def c13:MC:=(.seq (.reg [qq 2 (.mv (.const (.slice none 0 0)))]) (.seq (.reg [qq 7 (.call 10 []),qm 3 7]) (.seq (.reg [qq 4 (.mv (.const (.slice none 0 0)))]) (.seq (.seq (.reg [qm 8 0,qq 9 (.len (.tmp 8)),qq 10 (.mv (ki 0))]) (.blk 0 (.loop c13l1))) (.seq (.reg [qm 21 4,qm 2 21]) .ret)))))
theorem k13:conv Tryz.prog 22 (Tryz.f13.body.getD .skip)=c13:=by kernel_rfl
theorem in13 {a0:Value} {w:World} {R:Value→World→Prop} (h:G Tryz.prog Tryz.f13 22 [.c c13] R (frL 0 [a0]) w):Ret Tryz.prog 13 #[a0] w R:=G.enter (args:=[a0]) Tryz.func13 (c:=Tryz.f13.body.getD .skip) (by kernel_rfl) (by kernel_rfl) (by simp) k13 h
theorem play_spec {lv:Value} {l aa:List Str} {w:World} (hr:Rd w eS lv l) (hl:aa.length=l.length) (hlb:l.length≤1000000) (P:Nat→Nat→List Chk→Prop)
    (h0:∀ g r,P g 0 [boxC g 55 [U 44,U 34,I 1,.slice none 0 0,.map (some r)],mapC r S (fun _=>none)])
    (hline:∀ (g k:Nat) (L M:List Chk) (w':World),k < l.length→P g k L→Sep w w' (L++M)→Ret Tryz.prog 11 #[(.pointer (some ⟨g,0,none⟩)),S (l.getD k default)] w' fun v w2=>v=S (aa.getD k default)∧∃ L',P g (k+1) L'∧Sep w w2 (L'++M)) :
    Ret Tryz.prog 13 #[lv] w fun v w'=>Sep w w' [accC v 9 eS aa]:=by
  refine in13 ?_
  have hS:=Sep.start w
  have hbd:=hr.bd
  repeat' (first|((with_reducible apply G.a);exact rfl)|refine G.reg fun K hK=>?_|(with_reducible (refine hK _ _ ?_);clear hK K)|(have hk:=hK;clear hk;simp (disch:=first|exact dis|fail) only [push_cast,↓reduceIte,zq1,zq2,zq3,zq4,zq5,fct])|(refine zbsl ?_;intro gb wb hS)|(refine zco 10 (open30_spec _) ?_;rintro vb wb ⟨g,rm,rfl,hS2⟩;have hS:=hS2.ap;simp only [apps] at hS)|(refine G.cn ?_ ?_<;>intro hc<;>first|(with_reducible exact False.elim hc)|(exfalso;omega)|skip))
  all_goals
    have hS:=hS.nil 9 eS
    refine G.loop (fun x w'=>∃ (k:Nat) (ov:Value) (L:List Chk),k≤l.length∧P g k L∧x 3=(.pointer (some ⟨g,0,none⟩))∧x 4=ov∧x 8=lv∧x 9=I l.length∧x 10=I k∧Sep w w' (accC ov 9 eS (aa.take k) :: L)) (fun x _=>l.length - toN (x 10)) ?_ ?_
  · exact ⟨0,.slice none 0 0,_,Nat.zero_le _,h0 g rm,by exact sf,by exact sf,by exact sf,by exact sf,by exact sf,hS⟩
  · clear hS
    rintro u wl ⟨k,ov,L,hk,hP,q3,q4,q8,q9,q10,hS⟩ ih
    have hm:toN (u 10)=k:=by rw [q10];simp [toN]
    by_cases hlt:(k:Int) < l.length
    · have hta:aa.take (k+1)=aa.take k++[aa.getD k default]:=takeD aa k (by omega)
      have hln:=fun w' hS=>hline g k L [accC ov 9 eS (aa.take k)] w' (by omega) hP hS
      have htl:(aa.take k).length≤k:=by rw [List.length_take];omega
      generalize aa.take k=tk at *
      generalize aa.getD k default=ak at *
      (have fct:=(And.intro @q3 (And.intro @q4 (And.intro @q8 (And.intro @q9 @q10))));repeat' (first|((with_reducible apply G.a);exact rfl)|refine G.reg fun K hK=>?_|(with_reducible (refine hK _ _ ?_);clear hK K)|(have hk:=hK;clear hk;simp (disch:=first|exact dis|fail) only [push_cast,↓reduceIte,zq1,zq2,zq3,zq4,zq5,fct])|(refine zbsl ?_;intro gb wb hS)|(refine zco 11 (hln _ (Sep.sub hS (Sub.rot L))) ?_;rintro vb wb ⟨rfl,L2,hP2,hS2⟩;have hS:=Sep.sub hS2 (Sub.tor L2))|(refine zap ?_;intro vb wb hS)|(refine G.cn ?_ ?_<;>intro hc<;>first|(with_reducible exact False.elim hc)|(exfalso;omega)|skip)))<;>(try clear fct)
      all_goals
        rw [←hta] at hS
        have fct:=(And.intro @q3 (And.intro @q4 (And.intro @q8 (And.intro @q9 @q10))));refine ih _ _ ⟨k+1,_,L2,by omega,hP2,by exact sf,by exact sf,by exact sf,by exact sf,by exact sf,(Sep.sub hS (by repeat first|exact Sub.rfl'|exact Sub.n|(refine Sub.c (by repeat constructor) ?_)|refine Sub.skip ?_))⟩ ?_
        rw [hm];simp only [push_cast,↓reduceIte,zq1,zq2,zq3,zq4,zq5,toN_i,q3,q4,q8,q9,q10];omega
    · have hta:aa.take k=aa:=List.take_of_length_le (by omega)
      rw [hta] at hS
      (have fct:=(And.intro @q3 (And.intro @q4 (And.intro @q8 (And.intro @q9 @q10))));repeat' (first|((with_reducible apply G.a);exact rfl)|refine G.reg fun K hK=>?_|(with_reducible (refine hK _ _ ?_);clear hK K)|(have hk:=hK;clear hk;simp (disch:=first|exact dis|fail) only [push_cast,↓reduceIte,zq1,zq2,zq3,zq4,zq5,fct])|(refine zbsl ?_;intro gb wb hS)|(refine G.cn ?_ ?_<;>intro hc<;>first|(with_reducible exact False.elim hc)|(exfalso;omega)|skip)))<;>(try clear fct)
      all_goals
        (have fct:=(And.intro @q3 (And.intro @q4 (And.intro @q8 (And.intro @q9 @q10))));(first|refine G.r1 ?_|refine G.r2 ?_|refine G.r3 ?_|refine G.r0 ?_|refine G.d0 ?_);(try simp (disch:=first|exact dis|fail) only [push_cast,↓reduceIte,zq1,zq2,zq3,zq4,zq5,fct]);(try clear fct))
        exact (Sep.sub hS (by repeat first|exact Sub.rfl'|exact Sub.n|(refine Sub.c (by repeat constructor) ?_)|refine Sub.skip ?_))
end Go.Proofs.YtllanbmpacgigaaGreatDoor
