/- Texts of the proof, joined. -/
import Derived.Test.YtjajihaeoolefaaGreatDoorBP20
import Derived.Test.YtjajihaeoolefaaGreatDoorBW16
import Derived.Test.YtjajihaeoolefaaGreatDoorBX19
import Derived.Test.YtjajihaeoolefaaGreatDoorBB06
namespace Go.Proofs.YtjajihaeoolefaaGreatDoor
open Nat renaming reduceAdd→zq1,reduceLeDiff→zq2,reduceEqDiff→zq3,reduceLT→zq4
open Int renaming reduceToNat→zq5
set_option linter.unusedSimpArgs false
set_option linter.unusedVariables false
open Go.RowKit
def rowF:List Str→List Col→List Val→List Val×Int×Int
  | s :: r,c :: l,out=>if (deM s c.kind c.null).2≠0 then ([],(out.length:Int),(deM s c.kind c.null).2) else rowF r l (out++[(deM s c.kind c.null).1])
  | _,_,out=>(out,(out.length:Int),0)
def rowM (r:List Str) (l:List Col):List Val×Int×Int:=if (r.length:Int)=l.length then rowF r l [] else ([],(r.length:Int),10)
structure Bd where
  k:Int
  r:Int
  c:Int
  a:Int
def rdF (r0:Nat) (p:List Int) (l:List Col) (fk fa:Int):List (List Str)→List (List Val)→List (List Val)×Bd
  | [],out=>if fk≠0 then ([],⟨fk,0,0,fa⟩) else (out,⟨0,0,0,0⟩)
  | r :: t,out=>if ¬ (r.length:Int)=r0 then ([],⟨10,(out.length:Int)+1,(r.length:Int),0⟩) else
    if (pickM r p).2≠0 then ([],⟨(pickM r p).2,(out.length:Int)+1,0,0⟩) else
    if (rowM (pickM r p).1 l).2.2≠0 then ([],⟨(rowM (pickM r p).1 l).2.2,(out.length:Int)+1,(rowM (pickM r p).1 l).2.1,0⟩) else rdF r0 p l fk fa t (out++[(rowM (pickM r p).1 l).1])
def rdT (l:List Col) (mode fk fa:Int):List (List Str)→List (List Val)×Bd
  | []=>if fk≠0 then ([],⟨fk,0,0,fa⟩) else ([],⟨25,0,0,0⟩)
  | r0 :: t=>if (bindCM r0 (l.map nkC) mode).2.2≠0 then ([],⟨(bindCM r0 (l.map nkC) mode).2.2,0,(bindCM r0 (l.map nkC) mode).2.1,0⟩) else rdF r0.length (bindCM r0 (l.map nkC) mode).1 l fk fa t []
def readM (d:Dl) (l:List Col) (mode:Int) (s:Str):List (List Val)×Bd :=
  if (checkM (l.map nkC)).2≠0 then ([],⟨(checkM (l.map nkC)).2,0,(checkM (l.map nkC)).1,0⟩) else
  if mode < 1∨3 < mode then ([],⟨22,0,0,0⟩) else
  if rightD d=false then ([],⟨1,0,0,0⟩) else
  rdT l mode (parM d wideL s).k (parM d wideL s).a ((parM d wideL s).rs.map Prod.fst)
theorem rowF_at (r:List Str) (l:List Col) (k:Nat) (out:List Val) (h1:(k:Int) < r.length) (h2:(k:Int) < l.length):rowF (r.drop k) (l.drop k) out =
    if (deM (r.getD k default) (l.getD k default).kind (l.getD k default).null).2≠0 then ([],(out.length:Int),(deM (r.getD k default) (l.getD k default).kind (l.getD k default).null).2) else rowF (r.drop (k+1)) (l.drop (k+1)) (out++[(deM (r.getD k default) (l.getD k default).kind (l.getD k default).null).1]):=by
  rw [dropD _ _ h1,dropD _ _ h2,rowF]
theorem rowF_end (r:List Str) (l:List Col) (k:Nat) (out:List Val) (h1:¬ (k:Int) < r.length):rowF (r.drop k) (l.drop k) out=(out,(out.length:Int),0):=by
  rw [List.drop_eq_nil_of_le (show r.length≤k by omega)]
  cases l.drop k<;>rfl
theorem rdF_at (r0:Nat) (p:List Int) (l:List Col) (fk fa:Int) (t:List (List Str)) (k:Nat) (out:List (List Val)) (h1:(k:Int) < t.length):rdF r0 p l fk fa (t.drop k) out =
    if ¬ ((t.getD k []).length:Int)=r0 then ([],⟨10,(out.length:Int)+1,((t.getD k []).length:Int),0⟩) else
    if (pickM (t.getD k []) p).2≠0 then ([],⟨(pickM (t.getD k []) p).2,(out.length:Int)+1,0,0⟩) else
    if (rowM (pickM (t.getD k []) p).1 l).2.2≠0 then ([],⟨(rowM (pickM (t.getD k []) p).1 l).2.2,(out.length:Int)+1,(rowM (pickM (t.getD k []) p).1 l).2.1,0⟩) else rdF r0 p l fk fa (t.drop (k+1)) (out++[(rowM (pickM (t.getD k []) p).1 l).1]):=by
  have hd:t.getD k default=t.getD k []:=rfl
  rw [dropD _ _ h1,rdF,hd]
theorem rdF_end (r0:Nat) (p:List Int) (l:List Col) (fk fa:Int) (t:List (List Str)) (k:Nat) (out:List (List Val)) (h1:¬ (k:Int) < t.length):rdF r0 p l fk fa (t.drop k) out=if fk≠0 then ([],⟨fk,0,0,fa⟩) else (out,⟨0,0,0,0⟩):=by
  rw [List.drop_eq_nil_of_le (show t.length≤k by omega),rdF]
end Go.Proofs.YtjajihaeoolefaaGreatDoor
namespace Go.Proofs.YtjajihaeoolefaaGreatDoor
open Nat renaming reduceAdd→zq1,reduceLeDiff→zq2,reduceEqDiff→zq3,reduceLT→zq4
open Int renaming reduceToNat→zq5
set_option linter.unusedSimpArgs false
set_option linter.unusedVariables false
attribute [local irreducible] SemK UnitK StK AlcK BslK CallK CallV Instr.box Builtin.append_ Instr.makeSlice Instr.makeMap Instr.lookup Instr.mapUpdate Instr.sliceAt convert
open Go.RowKit
def recF:List Val→List Col→List Str→List Str×Int×Int
  | v :: r,c :: l,out=>if (encM v c.kind c.null).2≠0 then ([],(out.length:Int),(encM v c.kind c.null).2) else recF r l (out++[(encM v c.kind c.null).1])
  | _,_,out=>(out,(out.length:Int),0)
def recM (r:List Val) (l:List Col):List Str×Int×Int:=if (r.length:Int)=l.length then recF r l [] else ([],(r.length:Int),10)
theorem recF_at (r:List Val) (l:List Col) (k:Nat) (out:List Str) (h1:(k:Int) < r.length) (h2:(k:Int) < l.length):recF (r.drop k) (l.drop k) out =
    if (encM (r.getD k default) (l.getD k default).kind (l.getD k default).null).2≠0 then ([],(out.length:Int),(encM (r.getD k default) (l.getD k default).kind (l.getD k default).null).2) else recF (r.drop (k+1)) (l.drop (k+1)) (out++[(encM (r.getD k default) (l.getD k default).kind (l.getD k default).null).1]):=by
  rw [dropD _ _ h1,dropD _ _ h2,recF]
theorem recF_end (r:List Val) (l:List Col) (k:Nat) (out:List Str) (h1:¬ (k:Int) < r.length):recF (r.drop k) (l.drop k) out=(out,(out.length:Int),0):=by
  rw [List.drop_eq_nil_of_le (show r.length≤k by omega)]
  cases l.drop k<;>rfl
theorem toR_at (l:List Col) (k:Nat) (h:(k:Int) < l.length):(l.map toR).getD k default=⟨(l.getD k default).name,(l.getD k default).kind,if (l.getD k default).null=true then 1 else 0⟩:=by
  have h2:k < l.length:=by omega
  simp only [List.getD_eq_getElem?_getD,List.getElem?_map,List.getElem?_eq_getElem h2,Option.map_some,Option.getD_some]
  rfl
end Go.Proofs.YtjajihaeoolefaaGreatDoor
namespace Go.Proofs.YtjajihaeoolefaaGreatDoor
open Nat renaming reduceAdd→zq1,reduceLeDiff→zq2,reduceEqDiff→zq3,reduceLT→zq4
open Int renaming reduceToNat→zq5
set_option linter.unusedSimpArgs false
set_option linter.unusedVariables false
attribute [local irreducible] SemK UnitK StK AlcK BslK CallK CallV Instr.box Builtin.append_ Instr.makeSlice Instr.makeMap Instr.lookup Instr.mapUpdate Instr.sliceAt convert
open Go.RowKit
theorem pickF_sub (r:List Str) (B:Nat) (h:∀ s∈r,s.length≤B):∀ (p:List Int) (out:List Str),(∀ s∈out,s.length≤B)→(∀ s∈(pickF r p out).1,s.length≤B)∧(pickF r p out).1.length≤out.length+p.length
  | [],out,ho=>by rw [pickF];exact ⟨ho,by simp⟩
  | p :: l,out,ho=>by
    rw [pickF]
    split
    · exact ⟨by simp,by simp⟩
    · have := pickF_sub r B h l (out++[r.getD p.toNat default]) (fun s hs=>by
        rcases List.mem_append.1 hs with hs|hs
        · exact ho s hs
        · rw [List.mem_singleton] at hs
          subst hs
          rcases Nat.lt_or_ge p.toNat r.length with h1|h1
          · exact h _ (getD_mem r p.toNat (by omega))
          · rw [List.getD_eq_getElem?_getD,List.getElem?_eq_none h1];exact Nat.zero_le _)
      simp only [List.length_append,List.length_cons,List.length_nil] at this ⊢
      exact ⟨this.1,by omega⟩
theorem pickM_sub (r:List Str) (p:List Int) (B:Nat) (h:∀ s∈r,s.length≤B):(∀ s∈(pickM r p).1,s.length≤B)∧(pickM r p).1.length≤p.length:=by
  unfold pickM
  split
  · exact ⟨by simp,by simp⟩
  · have:=pickF_sub r B h p [] (by simp)
    simpa using this
def c32l1:MC:=(.seq (.reg [qq 22 (.bin .lss (.tmp 21) (.tmp 20))]) (.seq (.cond (.tmp 22) .skip (.exit 0)) (.seq (.blk 1 (.seq (.reg [qm 23 21,qq 24 (.adr 1 (.tmp 19) (.tmp 21)),qq 25 (.ld none (.tmp 24)),qm 8 23,qm 9 25]) (.seq (.reg [qm 27 9,qm 28 1,qm 29 8,qq 30 (.adr 3 (.tmp 28) (.tmp 29)),qq 31 (.ld (.some 3) (.tmp 30)),qq 32 (.call 64 [(.tmp 27),(.tmp 31)]),qm 26 32,qq 33 (.ext 0 (.tmp 26)),qq 34 (.ext 1 (.tmp 26)),qq 10 (.alc 84 [(.int .i64 0),(S []),(.int .i64 0),(.bool false)]),qn (.st 4 (.tmp 10) (.tmp 33)),qm 11 34]) (.seq (.seq (.reg [qm 35 11,qq 36 (.bin .neq (.tmp 35) (ki 0))]) (.cond (.tmp 36) (.seq (.reg [qm 37 8,qm 38 11,qq 4 (.mv (.const (.slice none 0 0))),qm 5 37,qm 6 38]) .ret) .skip)) (.reg [qm 39 7,qq 40 (.ld (.some 4) (.tmp 10)),qq 41 (.bsl 84 [(.int .i64 0),(S []),(.int .i64 0),(.bool false)] 1 [⟨0,⟨4,(.tmp 40)⟩⟩]),qq 42 (.raw (.call ⟨(.builtin .append),#[(.tmp 39),(.tmp 41)],#[79,79]⟩) 79),qm 7 42]))))) (.reg [qq 43 (.bin .add (.tmp 21) (ki 1)),qm 21 43]))))
def c32:MC:=(.seq (.reg [qq 4 (.mv (.const (.slice none 0 0))),qq 5 (.mv (ki 0)),qq 6 (.mv (ki 0))]) (.seq (.seq (.reg [qm 12 0,qq 13 (.len (.tmp 12)),qm 14 1,qq 15 (.len (.tmp 14)),qq 16 (.bin .neq (.tmp 13) (.tmp 15))]) (.cond (.tmp 16) (.seq (.reg [qm 17 0,qq 18 (.len (.tmp 17)),qq 4 (.mv (.const (.slice none 0 0))),qm 5 18,qq 6 (.mv (ki 10))]) .ret) .skip)) (.seq (.reg [qq 7 (.mv (.const (.slice none 0 0)))]) (.seq (.seq (.reg [qm 19 0,qq 20 (.len (.tmp 19)),qq 21 (.mv (ki 0))]) (.blk 0 (.loop c32l1))) (.seq (.reg [qm 44 7,qm 45 7,qq 46 (.len (.tmp 45)),qm 4 44,qm 5 46,qq 6 (.mv (ki 0))]) .ret)))))
theorem k32:conv Tryz.prog 47 (Tryz.f32.body.getD .skip)=c32:=by kernel_rfl
theorem in32 {a0 a1:Value} {w:World} {R:Value→World→Prop} (h:G Tryz.prog Tryz.f32 47 [.c c32] R (frL 0 [a0,a1]) w):Ret Tryz.prog 32 #[a0,a1] w R:=G.enter (args:=[a0,a1]) Tryz.func32 (c:=Tryz.f32.body.getD .skip) (by kernel_rfl) (by kernel_rfl) (by simp) k32 h
set_option maxHeartbeats 1000000 in
theorem row_spec {v0 v1:Value} {r:List Str} {l:List Col} {w:World} (h0:Rd w eS v0 r) (h1:Rd w eC v1 l) (hs:∀ s∈r,s.length≤1000000) (hrl:r.length≤1000000000) (hv:ErrV w) :
    Ret Tryz.prog 32 #[v0,v1] w fun res w'=>∃ lv,res=.tuple #[lv,I (rowM r l).2.1,I (rowM r l).2.2]∧Sep w w' [accC lv 84 eVal (rowM r l).1]:=by
  refine in32 ?_
  have hS:=Sep.start w
  have hbd:=h0.bd
  have hbd1:=h1.bd
  have nilR:∀ {wx:World} {L:List Chk},Sep w wx L→Sep w wx [accC (.slice none 0 0) 84 eVal []]:=fun h=>(Sep.sub h Sub.n).nil _ _
  unfold rowM
  by_cases hl:(r.length:Int)=l.length
  rotate_left
  · rw [if_neg hl]
    (have fct:=@hl;repeat' (first|((with_reducible apply G.a);exact rfl)|refine G.reg fun K hK=>?_|(with_reducible (refine hK _ _ ?_);clear hK K)|(have hk:=hK;clear hk;simp (disch:=first|exact dis|fail) only [push_cast,↓reduceIte,zq1,zq2,zq3,zq4,zq5,fct])|((first|refine zalc ?_|refine zbsl ?_);intro gb wb hS)|((with_reducible refine gSt ?_);refine zs2 ?_;intro wb hS)|(refine G.cn ?_ ?_<;>intro hc<;>first|(with_reducible exact False.elim hc)|(exfalso;omega)|skip)))<;>(try clear fct)
    all_goals
      (first|refine G.r1 ?_|refine G.r2 ?_|refine G.r3 ?_|refine G.r0 ?_|refine G.d0 ?_);(try simp (disch:=first|exact dis|fail) only [push_cast,↓reduceIte,zq1,zq2,zq3,zq4,zq5,fct])
      exact ⟨_,rfl,nilR hS⟩
  · rw [if_pos hl]
    have hS:=hS.nil 84 eVal
    (have fct:=@hl;repeat' (first|((with_reducible apply G.a);exact rfl)|refine G.reg fun K hK=>?_|(with_reducible (refine hK _ _ ?_);clear hK K)|(have hk:=hK;clear hk;simp (disch:=first|exact dis|fail) only [push_cast,↓reduceIte,zq1,zq2,zq3,zq4,zq5,fct])|((first|refine zalc ?_|refine zbsl ?_);intro gb wb hS)|((with_reducible refine gSt ?_);refine zs2 ?_;intro wb hS)|(refine G.cn ?_ ?_<;>intro hc<;>first|(with_reducible exact False.elim hc)|(exfalso;omega)|skip)))<;>(try clear fct)
    refine G.loop (fun u w'=>∃ (k:Nat) (lv:Value) (out:List Val),k≤r.length∧out.length=k∧u 21=I k∧u 20=I r.length∧u 19=v0∧u 1=v1∧u 7=lv∧rowF r l []=rowF (r.drop k) (l.drop k) out∧Sep w w' [accC lv 84 eVal out]) (fun u _=>r.length - toN (u 21)) ?_ ?_
    · have fct:=@hl;exact ⟨0,.slice none 0 0,[],Nat.zero_le _,rfl,by exact sf,by exact sf,by exact sf,by exact sf,by exact sf,rfl,hS⟩
    · clear hS
      rintro u wl ⟨k,lv,out,hk,ho,q21,q20,q19,q1,q7,e,hS⟩ ih
      have hm:toN (u 21)=k:=by rw [q21];simp [toN]
      by_cases hlt:(k:Int) < r.length
      · have hlb:(k:Int) < l.length:=by omega
        rw [rowF_at r l k out hlt hlb,ho] at e
        have hsk:=hs _ (getD_mem r k hlt)
        generalize hc:l.getD k default=c at *
        generalize hq:r.getD k default=q at *
        by_cases he:(deM q c.kind c.null).2=0
        · rw [if_neg (not_not_intro he)] at e
          (have fct:=(And.intro @q21 (And.intro @q20 (And.intro @q19 (And.intro @q1 (And.intro @q7 (And.intro @hc (And.intro @hq @he)))))));repeat' (first|((with_reducible apply G.a);exact rfl)|refine G.reg fun K hK=>?_|(with_reducible (refine hK _ _ ?_);clear hK K)|(have hk:=hK;clear hk;simp (disch:=first|exact dis|fail) only [push_cast,↓reduceIte,zq1,zq2,zq3,zq4,zq5,fct])|((first|refine zalc ?_|refine zbsl ?_);intro gb wb hS)|((with_reducible refine gSt ?_);refine zs2 ?_;intro wb hS)|(refine zcp 64 (dec_spec q c.name c.kind c.null _ hsk (hv.ext hS.x)) ?_;intro wb hS)|(refine zap (y:=(deM q c.kind c.null).1) ?_ (hy:=by simp only [eVal_f]);intro vb wb hS)|(refine G.cn ?_ ?_<;>intro hc<;>first|(with_reducible exact False.elim hc)|(exfalso;omega)|skip)))<;>(try clear fct)
          all_goals
            have fct:=(And.intro @q21 (And.intro @q20 (And.intro @q19 (And.intro @q1 @q7))));refine ih _ _ ⟨k+1,vb,out++[(deM q c.kind c.null).1],by omega,by simp [ho],by exact sf,by exact sf,by exact sf,by exact sf,by exact sf,e,(Sep.sub hS (by repeat first|exact Sub.rfl'|(refine Sub.c (by repeat constructor) ?_)|refine Sub.skip ?_))⟩ ?_
            rw [hm];simp only [push_cast,↓reduceIte,zq1,zq2,zq3,zq4,zq5,toN_i,q21,q20,q19,q1,q7];omega
        · rw [if_pos he] at e
          (have fct:=(And.intro @q21 (And.intro @q20 (And.intro @q19 (And.intro @q1 (And.intro @q7 (And.intro @hc (And.intro @hq @he)))))));repeat' (first|((with_reducible apply G.a);exact rfl)|refine G.reg fun K hK=>?_|(with_reducible (refine hK _ _ ?_);clear hK K)|(have hk:=hK;clear hk;simp (disch:=first|exact dis|fail) only [push_cast,↓reduceIte,zq1,zq2,zq3,zq4,zq5,fct])|((first|refine zalc ?_|refine zbsl ?_);intro gb wb hS)|((with_reducible refine gSt ?_);refine zs2 ?_;intro wb hS)|(refine zcp 64 (dec_spec q c.name c.kind c.null _ hsk (hv.ext hS.x)) ?_;intro wb hS)|(refine G.cn ?_ ?_<;>intro hc<;>first|(with_reducible exact False.elim hc)|(exfalso;omega)|skip)))<;>(try clear fct)
          all_goals
            rw [e]
            (have fct:=(And.intro @q21 (And.intro @q20 (And.intro @q19 (And.intro @q1 @q7))));(first|refine G.r1 ?_|refine G.r2 ?_|refine G.r3 ?_|refine G.r0 ?_|refine G.d0 ?_);(try simp (disch:=first|exact dis|fail) only [push_cast,↓reduceIte,zq1,zq2,zq3,zq4,zq5,fct]);(try clear fct))
            exact ⟨_,rfl,nilR hS⟩
      · rw [rowF_end r l k out hlt] at e
        rw [e]
        (have fct:=(And.intro @q21 (And.intro @q20 (And.intro @q19 (And.intro @q1 @q7))));repeat' (first|((with_reducible apply G.a);exact rfl)|refine G.reg fun K hK=>?_|(with_reducible (refine hK _ _ ?_);clear hK K)|(have hk:=hK;clear hk;simp (disch:=first|exact dis|fail) only [push_cast,↓reduceIte,zq1,zq2,zq3,zq4,zq5,fct])|((first|refine zalc ?_|refine zbsl ?_);intro gb wb hS)|((with_reducible refine gSt ?_);refine zs2 ?_;intro wb hS)|(refine G.cn ?_ ?_<;>intro hc<;>first|(with_reducible exact False.elim hc)|(exfalso;omega)|skip)))<;>(try clear fct)
        all_goals
          (have fct:=(And.intro @q21 (And.intro @q20 (And.intro @q19 (And.intro @q1 @q7))));(first|refine G.r1 ?_|refine G.r2 ?_|refine G.r3 ?_|refine G.r0 ?_|refine G.d0 ?_);(try simp (disch:=first|exact dis|fail) only [push_cast,↓reduceIte,zq1,zq2,zq3,zq4,zq5,fct]);(try clear fct))
          exact ⟨_,rfl,hS⟩
end Go.Proofs.YtjajihaeoolefaaGreatDoor
namespace Go.Proofs.YtjajihaeoolefaaGreatDoor
open Nat renaming reduceAdd→zq1,reduceLeDiff→zq2,reduceEqDiff→zq3,reduceLT→zq4
open Int renaming reduceToNat→zq5
set_option linter.unusedSimpArgs false
set_option linter.unusedVariables false
attribute [local irreducible] SemK UnitK StK AlcK BslK CallK CallV Instr.box Builtin.append_ Instr.makeSlice Instr.makeMap Instr.lookup Instr.mapUpdate Instr.sliceAt convert
open Go.RowKit
def RdR (w:World) (p:List (List Val)×Bd) (res:Value) (w':World):Prop:=∃ v vs,res=.tuple #[v,.agg #[I p.2.k,I p.2.r,I p.2.c,I p.2.a]]∧Sep w w' [accC v 79 eV vs,frzC eVal vs p.1]
theorem RdR.none {w w':World} {L:List Chk} {b:Bd} (hS:Sep w w' L):RdR w ([],b) (.tuple #[.slice none 0 0,.agg #[I b.k,I b.r,I b.c,I b.a]]) w' :=
  ⟨_,[],rfl,(((Sep.sub hS Sub.n).frz0 eVal).nil 79 eV)⟩
theorem bindCM_len (names:List Str) (cs:List (Str×Int)) (mode:Int) (N:Nat) (h:cs.length≤N):(bindCM names cs mode).1.length≤N:=by
  have hb:=bcF_len names mode (cs.map (·.1)) []
  unfold bindCM
  by_cases h1:mode < 1∨3 < mode
  · rw [if_pos h1];exact Nat.zero_le _
  rw [if_neg h1]
  by_cases h2:(checkM cs).2≠0
  · rw [if_pos h2];exact Nat.zero_le _
  rw [if_neg h2]
  by_cases h3:(newM names).2≠0
  · rw [if_pos h3];exact Nat.zero_le _
  rw [if_neg h3]
  by_cases h4:(bcF names mode (cs.map (·.1)) []).2.2≠0
  · rw [if_pos h4];exact Nat.zero_le _
  rw [if_neg h4]
  have h5:=(hb (by simpa using h4)).1
  rw [List.length_map] at h5
  have h6:(bcF names mode (cs.map (·.1)) []).1.length≤N:=by simpa [h5] using h
  split
  · split
    · exact Nat.zero_le _
    · exact h6
  · exact h6
def c10l1:MC:=(.seq (.reg [qq 90 (.bin .lss (.tmp 89) (.tmp 88))]) (.seq (.cond (.tmp 90) .skip (.exit 0)) (.seq (.blk 1 (.seq (.reg [qm 91 89,qq 92 (.adr 1 (.tmp 87) (.tmp 89)),qq 93 (.ld none (.tmp 92)),qm 19 91,qm 20 93]) (.seq (.seq (.reg [qm 94 20,qq 95 (.len (.tmp 94)),qm 96 13,qq 97 (.adr 1 (.tmp 96) (ki 0)),qq 98 (.ld none (.tmp 97)),qq 99 (.len (.tmp 98)),qq 100 (.bin .neq (.tmp 95) (.tmp 99))]) (.cond (.tmp 100) (.seq (.reg [qm 101 19,qq 102 (.bin .add (.tmp 101) (ki 1)),qm 103 20,qq 104 (.len (.tmp 103)),qq 105 (.bld [(.int .i64 0),(.int .i64 0),(.int .i64 0),(.int .i64 0)] [⟨0,⟨1,(ki 10)⟩⟩,⟨1,⟨1,(.tmp 102)⟩⟩,⟨2,⟨1,(.tmp 104)⟩⟩]),qq 8 (.mv (.const (.slice none 0 0))),qn (.st 4 (.tmp 9) (.tmp 105))]) .ret) .skip)) (.seq (.reg [qm 107 20,qm 108 15,qq 109 (.call 31 [(.tmp 107),(.tmp 108)]),qm 106 109,qq 110 (.ext 0 (.tmp 106)),qq 111 (.ext 1 (.tmp 106)),qm 21 110,qm 22 111]) (.seq (.seq (.reg [qm 112 22,qq 113 (.bin .neq (.tmp 112) (ki 0))]) (.cond (.tmp 113) (.seq (.reg [qm 114 22,qm 115 19,qq 116 (.bin .add (.tmp 115) (ki 1)),qq 117 (.bld [(.int .i64 0),(.int .i64 0),(.int .i64 0),(.int .i64 0)] [⟨0,⟨1,(.tmp 114)⟩⟩,⟨1,⟨1,(.tmp 116)⟩⟩]),qq 8 (.mv (.const (.slice none 0 0))),qn (.st 4 (.tmp 9) (.tmp 117))]) .ret) .skip)) (.seq (.reg [qm 119 21,qm 120 1,qq 121 (.call 32 [(.tmp 119),(.tmp 120)]),qm 118 121,qq 122 (.ext 0 (.tmp 118)),qq 123 (.ext 1 (.tmp 118)),qq 124 (.ext 2 (.tmp 118)),qm 23 122,qm 24 123,qm 22 124]) (.seq (.seq (.reg [qm 125 22,qq 126 (.bin .neq (.tmp 125) (ki 0))]) (.cond (.tmp 126) (.seq (.reg [qm 127 22,qm 128 19,qq 129 (.bin .add (.tmp 128) (ki 1)),qm 130 24,qq 131 (.bld [(.int .i64 0),(.int .i64 0),(.int .i64 0),(.int .i64 0)] [⟨0,⟨1,(.tmp 127)⟩⟩,⟨1,⟨1,(.tmp 129)⟩⟩,⟨2,⟨1,(.tmp 130)⟩⟩]),qq 8 (.mv (.const (.slice none 0 0))),qn (.st 4 (.tmp 9) (.tmp 131))]) .ret) .skip)) (.reg [qm 132 18,qm 133 23,qq 134 (.bsl 79 [(.slice none 0 0)] 1 [⟨0,⟨1,(.tmp 133)⟩⟩]),qq 135 (.raw (.call ⟨(.builtin .append),#[(.tmp 132),(.tmp 134)],#[25,25]⟩) 25),qm 18 135])))))))) (.reg [qq 136 (.bin .add (.tmp 89) (ki 1)),qm 89 136]))))
def c10:MC:=(.seq (.reg [qq 4 (.raw (.box 23 (.tmp 0)) 0),qq 8 (.mv (.const (.slice none 0 0))),qq 9 (.alc 44 [(.int .i64 0),(.int .i64 0),(.int .i64 0),(.int .i64 0)])]) (.seq (.seq (.reg [qm 26 1,qq 27 (.call 24 [(.tmp 26)]),qm 25 27,qq 28 (.ext 0 (.tmp 25)),qq 29 (.ext 1 (.tmp 25)),qm 10 28,qm 11 29]) (.seq (.reg [qm 30 11,qq 31 (.bin .neq (.tmp 30) (ki 0))]) (.cond (.tmp 31) (.seq (.reg [qm 32 11,qm 33 10,qq 34 (.bld [(.int .i64 0),(.int .i64 0),(.int .i64 0),(.int .i64 0)] [⟨0,⟨1,(.tmp 32)⟩⟩,⟨2,⟨1,(.tmp 33)⟩⟩]),qq 8 (.mv (.const (.slice none 0 0))),qn (.st 4 (.tmp 9) (.tmp 34))]) .ret) .skip))) (.seq (.seq (.reg [qm 35 2,qq 36 (.bin .neq (.tmp 35) (ki 1)),qm 37 36,qmt 37 38 2,qt 37 39 (.bin .neq (.tmp 38) (ki 2)),qq 40 (.pick (.tmp 37) (.tmp 39) (kb false)),qm 41 40,qmt 41 42 2,qt 41 43 (.bin .neq (.tmp 42) (ki 3)),qq 44 (.pick (.tmp 41) (.tmp 43) (kb false))]) (.cond (.tmp 44) (.seq (.reg [qq 45 (.bld [(.int .i64 0),(.int .i64 0),(.int .i64 0),(.int .i64 0)] [⟨0,⟨1,(ki 22)⟩⟩]),qq 8 (.mv (.const (.slice none 0 0))),qn (.st 4 (.tmp 9) (.tmp 45))]) .ret) .skip)) (.seq (.seq (.reg [qq 46 (.ld (.some 3) (.tmp 4)),qq 47 (.call 25 [(.tmp 46)]),qm 12 47]) (.seq (.reg [qm 48 12,qq 49 (.bin .neq (.tmp 48) (ki 0))]) (.cond (.tmp 49) (.seq (.reg [qm 50 12,qq 51 (.bld [(.int .i64 0),(.int .i64 0),(.int .i64 0),(.int .i64 0)] [⟨0,⟨1,(.tmp 50)⟩⟩]),qq 8 (.mv (.const (.slice none 0 0))),qn (.st 4 (.tmp 9) (.tmp 51))]) .ret) .skip))) (.seq (.drg [qq 53 (.ld (.some 3) (.tmp 4)),qq 54 (.call 29 []),qm 55 3,qq 56 (.call 17 [(.tmp 53),(.tmp 54),(.tmp 55)]),qm 52 56,qq 57 (.ext 0 (.tmp 52)),qq 58 (.ext 1 (.tmp 52)),qq 14 (.alc 64 [(.int .i64 0),(.int .i64 0)]),qm 13 57,qn (.st 2 (.tmp 14) (.tmp 58))] (.some (.br [qm 55 3] (.br [qq 53 (.ld (.some 3) (.tmp 4))] (.br [qq 54 (.call 29 [])] (.leaf [qq 56 (.call 17 [(.tmp 53),(.tmp 54),(.tmp 55)]),qm 52 56,qq 57 (.ext 0 (.tmp 52)),qq 58 (.ext 1 (.tmp 52)),qq 14 (.alc 64 [(.int .i64 0),(.int .i64 0)]),qm 13 57,qn (.st 2 (.tmp 14) (.tmp 58))]) (.leaf [qq 14 (.alc 64 [(.int .i64 0),(.int .i64 0)]),qq 56 (.call 17 [(.tmp 53),(.tmp 54),(.tmp 55)]),qm 52 56,qq 57 (.ext 0 (.tmp 52)),qq 58 (.ext 1 (.tmp 52)),qm 13 57,qn (.st 2 (.tmp 14) (.tmp 58))])) (.leaf [qq 14 (.alc 64 [(.int .i64 0),(.int .i64 0)]),qq 54 (.call 29 []),qq 56 (.call 17 [(.tmp 53),(.tmp 54),(.tmp 55)]),qm 52 56,qq 57 (.ext 0 (.tmp 52)),qq 58 (.ext 1 (.tmp 52)),qm 13 57,qn (.st 2 (.tmp 14) (.tmp 58))])) (.br [] (.br [qq 54 (.call 29 [])] (.br [qq 53 (.ld (.some 3) (.tmp 4))] (.leaf [qq 56 (.call 17 [(.tmp 53),(.tmp 54),(.tmp 55)]),qm 52 56,qq 57 (.ext 0 (.tmp 52)),qq 58 (.ext 1 (.tmp 52)),qq 14 (.alc 64 [(.int .i64 0),(.int .i64 0)]),qm 13 57,qn (.st 2 (.tmp 14) (.tmp 58))]) (.leaf [qq 14 (.alc 64 [(.int .i64 0),(.int .i64 0)]),qq 56 (.call 17 [(.tmp 53),(.tmp 54),(.tmp 55)]),qm 52 56,qq 57 (.ext 0 (.tmp 52)),qq 58 (.ext 1 (.tmp 52)),qm 13 57,qn (.st 2 (.tmp 14) (.tmp 58))])) (.leaf [qq 14 (.alc 64 [(.int .i64 0),(.int .i64 0)]),qq 53 (.ld (.some 3) (.tmp 4)),qq 56 (.call 17 [(.tmp 53),(.tmp 54),(.tmp 55)]),qm 52 56,qq 57 (.ext 0 (.tmp 52)),qq 58 (.ext 1 (.tmp 52)),qm 13 57,qn (.st 2 (.tmp 14) (.tmp 58))])) (.br [qq 14 (.alc 64 [(.int .i64 0),(.int .i64 0)])] (.leaf [qq 53 (.ld (.some 3) (.tmp 4)),qq 54 (.call 29 []),qq 56 (.call 17 [(.tmp 53),(.tmp 54),(.tmp 55)]),qm 52 56,qq 57 (.ext 0 (.tmp 52)),qq 58 (.ext 1 (.tmp 52)),qm 13 57,qn (.st 2 (.tmp 14) (.tmp 58))]) (.leaf [qq 54 (.call 29 []),qq 53 (.ld (.some 3) (.tmp 4)),qq 56 (.call 17 [(.tmp 53),(.tmp 54),(.tmp 55)]),qm 52 56,qq 57 (.ext 0 (.tmp 52)),qq 58 (.ext 1 (.tmp 52)),qm 13 57,qn (.st 2 (.tmp 14) (.tmp 58))])))))) (.seq (.seq (.reg [qm 59 13,qq 60 (.len (.tmp 59)),qq 61 (.bin .eql (.tmp 60) (ki 0))]) (.cond (.tmp 61) (.seq (.seq (.reg [qq 62 (.fad 0 (.tmp 14)),qq 63 (.ld none (.tmp 62)),qq 64 (.bin .neq (.tmp 63) (ki 0))]) (.cond (.tmp 64) (.seq (.drg [qq 65 (.fad 0 (.tmp 14)),qq 66 (.ld none (.tmp 65)),qq 67 (.fad 1 (.tmp 14)),qq 68 (.ld none (.tmp 67)),qq 69 (.bld [(.int .i64 0),(.int .i64 0),(.int .i64 0),(.int .i64 0)] [⟨0,⟨1,(.tmp 66)⟩⟩,⟨3,⟨1,(.tmp 68)⟩⟩]),qq 8 (.mv (.const (.slice none 0 0))),qn (.st 4 (.tmp 9) (.tmp 69))] (.some (.br [qq 65 (.fad 0 (.tmp 14)),qq 67 (.fad 1 (.tmp 14)),qq 8 (.mv (.const (.slice none 0 0)))] (.leaf [qq 66 (.ld none (.tmp 65)),qq 68 (.ld none (.tmp 67)),qq 69 (.bld [(.int .i64 0),(.int .i64 0),(.int .i64 0),(.int .i64 0)] [⟨0,⟨1,(.tmp 66)⟩⟩,⟨3,⟨1,(.tmp 68)⟩⟩]),qn (.st 4 (.tmp 9) (.tmp 69))]) (.leaf [qq 68 (.ld none (.tmp 67)),qq 66 (.ld none (.tmp 65)),qq 69 (.bld [(.int .i64 0),(.int .i64 0),(.int .i64 0),(.int .i64 0)] [⟨0,⟨1,(.tmp 66)⟩⟩,⟨3,⟨1,(.tmp 68)⟩⟩]),qn (.st 4 (.tmp 9) (.tmp 69))])))) .ret) .skip)) (.seq (.reg [qq 70 (.bld [(.int .i64 0),(.int .i64 0),(.int .i64 0),(.int .i64 0)] [⟨0,⟨1,(ki 25)⟩⟩]),qq 8 (.mv (.const (.slice none 0 0))),qn (.st 4 (.tmp 9) (.tmp 70))]) .ret)) .skip)) (.seq (.reg [qm 72 13,qq 73 (.adr 1 (.tmp 72) (ki 0)),qq 74 (.ld none (.tmp 73)),qm 75 1,qm 76 2,qq 77 (.call 30 [(.tmp 74),(.tmp 75),(.tmp 76)]),qm 71 77,qq 78 (.ext 0 (.tmp 71)),qq 79 (.ext 1 (.tmp 71)),qq 80 (.ext 2 (.tmp 71)),qm 15 78,qm 16 79,qm 17 80]) (.seq (.seq (.reg [qm 81 17,qq 82 (.bin .neq (.tmp 81) (ki 0))]) (.cond (.tmp 82) (.seq (.reg [qm 83 17,qm 84 16,qq 85 (.bld [(.int .i64 0),(.int .i64 0),(.int .i64 0),(.int .i64 0)] [⟨0,⟨1,(.tmp 83)⟩⟩,⟨2,⟨1,(.tmp 84)⟩⟩]),qq 8 (.mv (.const (.slice none 0 0))),qn (.st 4 (.tmp 9) (.tmp 85))]) .ret) .skip)) (.seq (.reg [qq 18 (.mv (.const (.slice none 0 0)))]) (.seq (.seq (.reg [qm 86 13,qq 87 (.slV 1 (.tmp 86) (.some (ki 1)) none),qq 88 (.len (.tmp 87)),qq 89 (.mv (ki 0))]) (.blk 0 (.loop c10l1))) (.seq (.seq (.reg [qq 137 (.fad 0 (.tmp 14)),qq 138 (.ld none (.tmp 137)),qq 139 (.bin .neq (.tmp 138) (ki 0))]) (.cond (.tmp 139) (.seq (.drg [qq 140 (.fad 0 (.tmp 14)),qq 141 (.ld none (.tmp 140)),qq 142 (.fad 1 (.tmp 14)),qq 143 (.ld none (.tmp 142)),qq 144 (.bld [(.int .i64 0),(.int .i64 0),(.int .i64 0),(.int .i64 0)] [⟨0,⟨1,(.tmp 141)⟩⟩,⟨3,⟨1,(.tmp 143)⟩⟩]),qq 8 (.mv (.const (.slice none 0 0))),qn (.st 4 (.tmp 9) (.tmp 144))] (.some (.br [qq 140 (.fad 0 (.tmp 14)),qq 142 (.fad 1 (.tmp 14)),qq 8 (.mv (.const (.slice none 0 0)))] (.leaf [qq 141 (.ld none (.tmp 140)),qq 143 (.ld none (.tmp 142)),qq 144 (.bld [(.int .i64 0),(.int .i64 0),(.int .i64 0),(.int .i64 0)] [⟨0,⟨1,(.tmp 141)⟩⟩,⟨3,⟨1,(.tmp 143)⟩⟩]),qn (.st 4 (.tmp 9) (.tmp 144))]) (.leaf [qq 143 (.ld none (.tmp 142)),qq 141 (.ld none (.tmp 140)),qq 144 (.bld [(.int .i64 0),(.int .i64 0),(.int .i64 0),(.int .i64 0)] [⟨0,⟨1,(.tmp 141)⟩⟩,⟨3,⟨1,(.tmp 143)⟩⟩]),qn (.st 4 (.tmp 9) (.tmp 144))])))) .ret) .skip)) (.seq (.reg [qm 145 18,qq 146 (.bld [(.int .i64 0),(.int .i64 0),(.int .i64 0),(.int .i64 0)] []),qm 8 145,qn (.st 4 (.tmp 9) (.tmp 146))]) .ret))))))))))))
theorem k10:conv Tryz.prog 147 (Tryz.f10.body.getD .skip)=c10:=by kernel_rfl
theorem in10 {a0 a1 a2 a3:Value} {w:World} {R:Value→World→Prop} (h:G Tryz.prog Tryz.f10 147 [.c c10] R (frL 0 [a0,a1,a2,a3]) w):Ret Tryz.prog 10 #[a0,a1,a2,a3] w R:=G.enter (args:=[a0,a1,a2,a3]) Tryz.func10 (c:=Tryz.f10.body.getD .skip) (by kernel_rfl) (by kernel_rfl) (by simp) k10 h
def readV (T:MC):MC:=match c10 with
  | .seq a (.seq b (.seq c (.seq d (.seq e _))))=>.seq a (.seq b (.seq c (.seq d (.seq e T))))
  | _=>.skip
def readT:MC:=match c10 with
  | .seq _ (.seq _ (.seq _ (.seq _ (.seq _ T))))=>T
  | _=>.skip
set_option maxHeartbeats 2000000 in
theorem read_tail {v1:Value} {l:List Col} {mode:Int} {w:World} {n:Nat} (h1:Rd w eC v1 l) (hm:1≤mode∧mode≤3) (hl1:l.length≤1000000000) (hl2:∀ c∈l,c.name.length≤100000000000) (hv:ErrV w)
    {fk fa:Int} {recs:List (List Str)} {g14 g9:Nat} {v:Value} {vs:List Value} {ρ:Fr} {w':World} (hmb:∀ r∈recs,r.length≤1000000000∧∀ f∈r,f.length≤1000000) (hrl:recs.length≤1000000000) (hS:Sep w w' [boxC g14 64 [I fk,I fa],accC v 28 eV vs,frzC eS vs recs,boxC g9 44 [I 0,I 0,I 0,I 0]]) (q1:ρ 1=v1) (q2:ρ 2=I mode) (q9:ρ 9=.pointer (some ⟨g9,0,none⟩)) (q13:ρ 13=v) (q14:ρ 14=.pointer (some ⟨g14,0,none⟩)) :
    G Tryz.prog Tryz.f10 n [.c readT] (RdR w (rdT l mode fk fa recs)) ρ w':=by
  unfold readT c10
  dsimp only
  have hvl:=hS.frzLen (.t (.t .h))
  have hrv:=Sep.rd (v:=v) hS (.t .h)
  have hbd:=hrv.bd
  cases recs with
  | nil =>
    obtain rfl:vs=[]:=List.eq_nil_of_length_eq_zero hvl
    rw [rdT]
    by_cases hk:fk=0
    · rw [if_neg (not_not_intro hk)]
      (have fct:=(And.intro @q1 (And.intro @q2 (And.intro @q9 (And.intro @q13 (And.intro @q14 @hk)))));repeat' (first|((with_reducible apply G.a);exact rfl)|refine G.reg fun K hK=>?_|(with_reducible (refine hK _ _ ?_);clear hK K)|(with_reducible (refine hK _ ?_);clear hK K;intro wd hxd;have hS:=Sep.xx hxd)|((first|have hk:=hK|have hk:=hK2);clear hk;simp (disch:=first|exact dis|fail) only [push_cast,↓reduceIte,zq1,zq2,zq3,zq4,zq5,fct])|((first|refine brO_n ?_ ?_|refine brQ_n ?_ ?_)<;>intro hb hc<;>first|(with_reducible exact False.elim hc)|(exfalso;omega)|(simp only [hb];clear hb))|((first|refine zalc ?_|refine zbsl ?_|((with_reducible refine gBox ?_);refine zbox ?_));intro gb wb hS)|((with_reducible refine gSt ?_);refine zs2 ?_;intro wb hS)|(refine G.drt mixed fun K hK wd hxd=>?_;have hS:=Sep.xx hxd)|with_reducible refine OT_leaf ?_|(with_reducible (refine hK2 _ ?_);clear hK2 K2;intro wd hxd;have hS:=Sep.xx hxd)|with_reducible refine OT_br fun K2 hK2=>?_|(refine hK2 _ _ ?_ ?_<;>clear hK2 K2)|refine G.drg mixed fun K hK=>?_|(refine G.cn ?_ ?_<;>intro hc<;>first|(with_reducible exact False.elim hc)|(exfalso;omega)|skip)))<;>(try clear fct)
      all_goals
        (have fct:=@q9;(first|refine G.r1 ?_|refine G.r2 ?_|refine G.r3 ?_|refine G.r0 ?_|refine G.d0 ?_);(try simp (disch:=first|exact dis|fail) only [push_cast,↓reduceIte,zq1,zq2,zq3,zq4,zq5,fct]);(try clear fct))
        exact RdR.none (b:=⟨25,0,0,0⟩) hS
    · rw [if_pos hk]
      (have fct:=(And.intro @q1 (And.intro @q2 (And.intro @q9 (And.intro @q13 (And.intro @q14 @hk)))));repeat' (first|((with_reducible apply G.a);exact rfl)|refine G.reg fun K hK=>?_|(with_reducible (refine hK _ _ ?_);clear hK K)|(with_reducible (refine hK _ ?_);clear hK K;intro wd hxd;have hS:=Sep.xx hxd)|((first|have hk:=hK|have hk:=hK2);clear hk;simp (disch:=first|exact dis|fail) only [push_cast,↓reduceIte,zq1,zq2,zq3,zq4,zq5,fct])|((first|refine brO_n ?_ ?_|refine brQ_n ?_ ?_)<;>intro hb hc<;>first|(with_reducible exact False.elim hc)|(exfalso;omega)|(simp only [hb];clear hb))|((first|refine zalc ?_|refine zbsl ?_|((with_reducible refine gBox ?_);refine zbox ?_));intro gb wb hS)|((with_reducible refine gSt ?_);refine zs2 ?_;intro wb hS)|(refine G.drt mixed fun K hK wd hxd=>?_;have hS:=Sep.xx hxd)|with_reducible refine OT_leaf ?_|(with_reducible (refine hK2 _ ?_);clear hK2 K2;intro wd hxd;have hS:=Sep.xx hxd)|with_reducible refine OT_br fun K2 hK2=>?_|(refine hK2 _ _ ?_ ?_<;>clear hK2 K2)|refine G.drg mixed fun K hK=>?_|(refine G.cn ?_ ?_<;>intro hc<;>first|(with_reducible exact False.elim hc)|(exfalso;omega)|skip)))<;>(try clear fct)
      all_goals
        (have fct:=@q9;(first|refine G.r1 ?_|refine G.r2 ?_|refine G.r3 ?_|refine G.r0 ?_|refine G.d0 ?_);(try simp (disch:=first|exact dis|fail) only [push_cast,↓reduceIte,zq1,zq2,zq3,zq4,zq5,fct]);(try clear fct))
        exact RdR.none (b:=⟨fk,0,0,fa⟩) hS
  | cons r0 t =>
    have hvl':(vs.length:Int)=t.length+1:=by simp only [List.length_cons] at hvl;omega
    have hne:¬ (vs.length:Int)=0:=by omega
    have h00:(0:Int) < vs.length:=by omega
    have hr0:Rd w' eS (vs.getD 0 default) r0:=Sep.frzAt (vs:=vs) (xss:=r0 :: t) hS (by repeat constructor) (i:=0) (by simp)
    obtain ⟨b1,b2⟩:=hmb r0 (by simp)
    have hd1:(vs.drop 1).length=t.length:=by rw [List.length_drop];omega
    rw [rdT]
    generalize hbm:bindCM r0 (l.map nkC) mode=B at *
    by_cases hbe:B.2.2=0
    rotate_left
    · rw [if_pos hbe]
      have hsl:=hrv.sll (k:=.i64) (a:=1) (n:=1) rfl (by decide) (by omega)
      (have fct:=(And.intro @q1 (And.intro @q2 (And.intro @q9 (And.intro @q13 (And.intro @q14 (And.intro @hbm (And.intro @hbe @hne)))))));repeat' (first|((with_reducible apply G.a);exact rfl)|refine G.reg fun K hK=>?_|(with_reducible (refine hK _ _ ?_);clear hK K)|(with_reducible (refine hK _ ?_);clear hK K;intro wd hxd;have hS:=Sep.xx hxd)|((first|have hk:=hK|have hk:=hK2);clear hk;simp (disch:=first|exact dis|fail) only [push_cast,↓reduceIte,zq1,zq2,zq3,zq4,zq5,fct])|((first|refine brO_n ?_ ?_|refine brQ_n ?_ ?_)<;>intro hb hc<;>first|(with_reducible exact False.elim hc)|(exfalso;omega)|(simp only [hb];clear hb))|((first|refine zalc ?_|refine zbsl ?_|((with_reducible refine gBox ?_);refine zbox ?_));intro gb wb hS)|((with_reducible refine gSt ?_);refine zs2 ?_;intro wb hS)|(refine zco 30 (bindC_spec (l:=l) (names:=r0) (Sep.frzAt (vs:=vs) (xss:=r0 :: t) hS (by repeat constructor) (i:=0) (by simp)) (h1.ext hS.x) (by omega) b1 hl1 (fun s hs=>by have:=b2 s hs;omega) hl2) ?_;rintro vb wb ⟨pv,rfl,hS2⟩;have hS:=hS2.ap;simp only [apps] at hS)|(refine G.drt mixed fun K hK wd hxd=>?_;have hS:=Sep.xx hxd)|with_reducible refine OT_leaf ?_|(with_reducible (refine hK2 _ ?_);clear hK2 K2;intro wd hxd;have hS:=Sep.xx hxd)|with_reducible refine OT_br fun K2 hK2=>?_|(refine hK2 _ _ ?_ ?_<;>clear hK2 K2)|refine G.drg mixed fun K hK=>?_|(refine G.cn ?_ ?_<;>intro hc<;>first|(with_reducible exact False.elim hc)|(exfalso;omega)|skip)))<;>(try clear fct)
      all_goals
        (have fct:=@q9;(first|refine G.r1 ?_|refine G.r2 ?_|refine G.r3 ?_|refine G.r0 ?_|refine G.d0 ?_);(try simp (disch:=first|exact dis|fail) only [push_cast,↓reduceIte,zq1,zq2,zq3,zq4,zq5,fct]);(try clear fct))
        exact RdR.none (b:=⟨B.2.2,0,B.2.1,0⟩) hS
    · rw [if_neg (not_not_intro hbe)]
      have hpl:B.1.length≤1000000000:=by rw [←hbm];exact bindCM_len _ _ _ _ (by rw [List.length_map];exact hl1)
      have hsl:=hrv.sll (k:=.i64) (a:=1) (n:=1) rfl (by decide) (by omega)
      (have fct:=(And.intro @q1 (And.intro @q2 (And.intro @q9 (And.intro @q13 (And.intro @q14 (And.intro @hbm (And.intro @hbe @hne)))))));repeat' (first|((with_reducible apply G.a);exact rfl)|refine G.reg fun K hK=>?_|(with_reducible (refine hK _ _ ?_);clear hK K)|(with_reducible (refine hK _ ?_);clear hK K;intro wd hxd;have hS:=Sep.xx hxd)|((first|have hk:=hK|have hk:=hK2);clear hk;simp (disch:=first|exact dis|fail) only [push_cast,↓reduceIte,zq1,zq2,zq3,zq4,zq5,fct])|((first|refine brO_n ?_ ?_|refine brQ_n ?_ ?_)<;>intro hb hc<;>first|(with_reducible exact False.elim hc)|(exfalso;omega)|(simp only [hb];clear hb))|((first|refine zalc ?_|refine zbsl ?_|((with_reducible refine gBox ?_);refine zbox ?_));intro gb wb hS)|((with_reducible refine gSt ?_);refine zs2 ?_;intro wb hS)|(refine zco 30 (bindC_spec (l:=l) (names:=r0) (Sep.frzAt (vs:=vs) (xss:=r0 :: t) hS (by repeat constructor) (i:=0) (by simp)) (h1.ext hS.x) (by omega) b1 hl1 (fun s hs=>by have:=b2 s hs;omega) hl2) ?_;rintro vb wb ⟨pv,rfl,hS2⟩;have hS:=hS2.ap;simp only [apps] at hS)|(refine G.drt mixed fun K hK wd hxd=>?_;have hS:=Sep.xx hxd)|with_reducible refine OT_leaf ?_|(with_reducible (refine hK2 _ ?_);clear hK2 K2;intro wd hxd;have hS:=Sep.xx hxd)|with_reducible refine OT_br fun K2 hK2=>?_|(refine hK2 _ _ ?_ ?_<;>clear hK2 K2)|refine G.drg mixed fun K hK=>?_|(refine G.cn ?_ ?_<;>intro hc<;>first|(with_reducible exact False.elim hc)|(exfalso;omega)|skip)))<;>(try clear fct)
      all_goals
        rw [hbm] at hS
        clear hS2
        generalize B.1=p at *
        have hS:=(hS.frz0 eVal).nil 79 eV
        refine G.loop (fun u wz=>∃ (k:Nat) (rv:Value) (us:List Value) (out:List (List Val)),k≤t.length∧out.length=k∧u 89=I k∧u 88=I t.length∧u 87=slVV 1 (some (I 1)) none v∧u 1=v1∧u 9=.pointer (some ⟨g9,0,none⟩)∧u 13=v∧u 14=.pointer (some ⟨g14,0,none⟩)∧u 15=pv∧u 18=rv∧rdF r0.length p l fk fa t []=rdF r0.length p l fk fa (t.drop k) out ∧
          Sep w wz [accC rv 79 eV us,frzC eVal us out,accC pv 3 eI p,boxC g14 64 [I fk,I fa],accC v 28 eV vs,frzC eS vs (r0 :: t),boxC g9 44 [I 0,I 0,I 0,I 0]]) (fun u _=>t.length - toN (u 89)) ?_ ?_
        · exact ⟨0,.slice none 0 0,[],[],Nat.zero_le _,rfl,by simp only [push_cast,↓reduceIte,zq1,zq2,zq3,zq4,zq5]<;>rfl,by simp only [push_cast,↓reduceIte,zq1,zq2,zq3,zq4,zq5,q13,hd1]<;>rfl,by simp only [push_cast,↓reduceIte,zq1,zq2,zq3,zq4,zq5,q13]<;>rfl,by simp only [push_cast,↓reduceIte,zq1,zq2,zq3,zq4,zq5,q1]<;>rfl,by simp only [push_cast,↓reduceIte,zq1,zq2,zq3,zq4,zq5,q9]<;>rfl,by simp only [push_cast,↓reduceIte,zq1,zq2,zq3,zq4,zq5,q13]<;>rfl,by simp only [push_cast,↓reduceIte,zq1,zq2,zq3,zq4,zq5,q14]<;>rfl,by simp only [push_cast,↓reduceIte,zq1,zq2,zq3,zq4,zq5]<;>rfl,by simp only [push_cast,↓reduceIte,zq1,zq2,zq3,zq4,zq5]<;>rfl,rfl,hS⟩
        · clear hS q1 q2 q9 q13 q14 hr0 hrv hsl
          rintro u wl ⟨k,rv,us,out,hk,ho,q89,q88,q87,q1,q9,q13,q14,q15,q18,e,hS⟩ ih
          have hmk:toN (u 89)=k:=by rw [q89];simp [toN]
          have hul:=hS.frzLen (.t .h)
          have hxw:=hS.xt
          by_cases hlt:(k:Int) < t.length
          · have hrv := Sep.rd (v:=v) (xs:=vs) hS (by repeat constructor)
            have hsl:=hrv.sll (k:=.i64) (a:=1) (n:=1) rfl (by decide) (by omega)
            have hlb:(k:Int) < (vs.drop 1).length:=by omega
            have hel:(vs.drop 1).getD k default=vs.getD (k+1) default:=by simp [List.getD_eq_getElem?_getD,List.getElem?_drop,Nat.add_comm]
            have hr0:Rd wl eS (vs.getD 0 default) r0:=Sep.frzAt (vs:=vs) (xss:=r0 :: t) hS (by repeat constructor) (i:=0) (by simp)
            have hrk:Rd wl eS (vs.getD (k+1) default) (t.getD k []):=Sep.frzAt (vs:=vs) (xss:=r0 :: t) hS (by repeat constructor) (i:=k+1) (by simp;omega)
            obtain ⟨b3,b4⟩:=hmb (t.getD k []) (List.mem_cons_of_mem _ (getD_mem t k hlt))
            rw [rdF_at _ _ _ _ _ t k out hlt,ho] at e
            generalize t.getD k []=r at *
            by_cases hw:(r.length:Int)=r0.length
            rotate_left
            · rw [if_pos hw] at e
              (have fct:=(And.intro @q89 (And.intro @q88 (And.intro @q87 (And.intro @q1 (And.intro @q9 (And.intro @q13 (And.intro @q14 (And.intro @q15 (And.intro @q18 (And.intro @hel @hw))))))))));repeat' (first|((with_reducible apply G.a);exact rfl)|refine G.reg fun K hK=>?_|(with_reducible (refine hK _ _ ?_);clear hK K)|(with_reducible (refine hK _ ?_);clear hK K;intro wd hxd;have hS:=Sep.xx hxd)|((first|have hk:=hK|have hk:=hK2);clear hk;simp (disch:=first|exact dis|fail) only [push_cast,↓reduceIte,zq1,zq2,zq3,zq4,zq5,fct])|((first|refine brO_n ?_ ?_|refine brQ_n ?_ ?_)<;>intro hb hc<;>first|(with_reducible exact False.elim hc)|(exfalso;omega)|(simp only [hb];clear hb))|((first|refine zalc ?_|refine zbsl ?_|((with_reducible refine gBox ?_);refine zbox ?_));intro gb wb hS)|((with_reducible refine gSt ?_);refine zs2 ?_;intro wb hS)|(refine G.drt mixed fun K hK wd hxd=>?_;have hS:=Sep.xx hxd)|with_reducible refine OT_leaf ?_|(with_reducible (refine hK2 _ ?_);clear hK2 K2;intro wd hxd;have hS:=Sep.xx hxd)|with_reducible refine OT_br fun K2 hK2=>?_|(refine hK2 _ _ ?_ ?_<;>clear hK2 K2)|refine G.drg mixed fun K hK=>?_|(refine G.cn ?_ ?_<;>intro hc<;>first|(with_reducible exact False.elim hc)|(exfalso;omega)|skip)))<;>(try clear fct)
              all_goals
                rw [e]
                (have fct:=(And.intro @q89 (And.intro @q88 (And.intro @q87 (And.intro @q1 (And.intro @q9 (And.intro @q13 (And.intro @q14 (And.intro @q15 @q18))))))));(first|refine G.r1 ?_|refine G.r2 ?_|refine G.r3 ?_|refine G.r0 ?_|refine G.d0 ?_);(try simp (disch:=first|exact dis|fail) only [push_cast,↓reduceIte,zq1,zq2,zq3,zq4,zq5,fct]);(try clear fct))
                exact RdR.none (b:=⟨10,(k:Int)+1,(r.length:Int),0⟩) hS
            · rw [if_neg (not_not_intro hw)] at e
              obtain ⟨c1,c2⟩:=pickM_sub r p 1000000 b4
              by_cases hp:(pickM r p).2=0
              rotate_left
              · rw [if_pos hp] at e
                (have fct:=(And.intro @q89 (And.intro @q88 (And.intro @q87 (And.intro @q1 (And.intro @q9 (And.intro @q13 (And.intro @q14 (And.intro @q15 (And.intro @q18 (And.intro @hel (And.intro @hw @hp)))))))))));repeat' (first|((with_reducible apply G.a);exact rfl)|refine G.reg fun K hK=>?_|(with_reducible (refine hK _ _ ?_);clear hK K)|(with_reducible (refine hK _ ?_);clear hK K;intro wd hxd;have hS:=Sep.xx hxd)|((first|have hk:=hK|have hk:=hK2);clear hk;simp (disch:=first|exact dis|fail) only [push_cast,↓reduceIte,zq1,zq2,zq3,zq4,zq5,fct])|((first|refine brO_n ?_ ?_|refine brQ_n ?_ ?_)<;>intro hb hc<;>first|(with_reducible exact False.elim hc)|(exfalso;omega)|(simp only [hb];clear hb))|((first|refine zalc ?_|refine zbsl ?_|((with_reducible refine gBox ?_);refine zbox ?_));intro gb wb hS)|((with_reducible refine gSt ?_);refine zs2 ?_;intro wb hS)|(refine zco 31 (pick_spec (r:=r) (places:=p) hrk (Sep.rd hS (by repeat constructor)) hpl) ?_;rintro vb wb ⟨fv,rfl,hS2⟩;have hS:=hS2.ap;simp only [apps] at hS)|(refine G.drt mixed fun K hK wd hxd=>?_;have hS:=Sep.xx hxd)|with_reducible refine OT_leaf ?_|(with_reducible (refine hK2 _ ?_);clear hK2 K2;intro wd hxd;have hS:=Sep.xx hxd)|with_reducible refine OT_br fun K2 hK2=>?_|(refine hK2 _ _ ?_ ?_<;>clear hK2 K2)|refine G.drg mixed fun K hK=>?_|(refine G.cn ?_ ?_<;>intro hc<;>first|(with_reducible exact False.elim hc)|(exfalso;omega)|skip)))<;>(try clear fct)
                all_goals
                  rw [e]
                  (have fct:=(And.intro @q89 (And.intro @q88 (And.intro @q87 (And.intro @q1 (And.intro @q9 (And.intro @q13 (And.intro @q14 (And.intro @q15 @q18))))))));(first|refine G.r1 ?_|refine G.r2 ?_|refine G.r3 ?_|refine G.r0 ?_|refine G.d0 ?_);(try simp (disch:=first|exact dis|fail) only [push_cast,↓reduceIte,zq1,zq2,zq3,zq4,zq5,fct]);(try clear fct))
                  exact RdR.none (b:=⟨(pickM r p).2,(k:Int)+1,0,0⟩) hS
              · rw [if_neg (not_not_intro hp)] at e
                by_cases hx:(rowM (pickM r p).1 l).2.2=0
                rotate_left
                · rw [if_pos hx] at e
                  (have fct:=(And.intro @q89 (And.intro @q88 (And.intro @q87 (And.intro @q1 (And.intro @q9 (And.intro @q13 (And.intro @q14 (And.intro @q15 (And.intro @q18 (And.intro @hel (And.intro @hw (And.intro @hp @hx))))))))))));repeat' (first|((with_reducible apply G.a);exact rfl)|refine G.reg fun K hK=>?_|(with_reducible (refine hK _ _ ?_);clear hK K)|(with_reducible (refine hK _ ?_);clear hK K;intro wd hxd;have hS:=Sep.xx hxd)|((first|have hk:=hK|have hk:=hK2);clear hk;simp (disch:=first|exact dis|fail) only [push_cast,↓reduceIte,zq1,zq2,zq3,zq4,zq5,fct])|((first|refine brO_n ?_ ?_|refine brQ_n ?_ ?_)<;>intro hb hc<;>first|(with_reducible exact False.elim hc)|(exfalso;omega)|(simp only [hb];clear hb))|((first|refine zalc ?_|refine zbsl ?_|((with_reducible refine gBox ?_);refine zbox ?_));intro gb wb hS)|((with_reducible refine gSt ?_);refine zs2 ?_;intro wb hS)|(refine zco 31 (pick_spec (r:=r) (places:=p) hrk (Sep.rd hS (by repeat constructor)) hpl) ?_;rintro vb wb ⟨fv,rfl,hS2⟩;have hS:=hS2.ap;simp only [apps] at hS)|(refine zco 32 (row_spec (r:=(pickM r p).1) (l:=l) (Sep.rd hS (by repeat constructor)) (h1.ext hS.x) c1 (by omega) (hv.ext hS.x)) ?_;rintro vb wb ⟨lv,rfl,hS2⟩;have hS:=hS2.ap;simp only [apps] at hS)|(refine G.drt mixed fun K hK wd hxd=>?_;have hS:=Sep.xx hxd)|with_reducible refine OT_leaf ?_|(with_reducible (refine hK2 _ ?_);clear hK2 K2;intro wd hxd;have hS:=Sep.xx hxd)|with_reducible refine OT_br fun K2 hK2=>?_|(refine hK2 _ _ ?_ ?_<;>clear hK2 K2)|refine G.drg mixed fun K hK=>?_|(refine G.cn ?_ ?_<;>intro hc<;>first|(with_reducible exact False.elim hc)|(exfalso;omega)|skip)))<;>(try clear fct)
                  all_goals
                    rw [e]
                    (have fct:=(And.intro @q89 (And.intro @q88 (And.intro @q87 (And.intro @q1 (And.intro @q9 (And.intro @q13 (And.intro @q14 (And.intro @q15 @q18))))))));(first|refine G.r1 ?_|refine G.r2 ?_|refine G.r3 ?_|refine G.r0 ?_|refine G.d0 ?_);(try simp (disch:=first|exact dis|fail) only [push_cast,↓reduceIte,zq1,zq2,zq3,zq4,zq5,fct]);(try clear fct))
                    exact RdR.none (b:=⟨(rowM (pickM r p).1 l).2.2,(k:Int)+1,(rowM (pickM r p).1 l).2.1,0⟩) hS
                · rw [if_neg (not_not_intro hx)] at e
                  (have fct:=(And.intro @q89 (And.intro @q88 (And.intro @q87 (And.intro @q1 (And.intro @q9 (And.intro @q13 (And.intro @q14 (And.intro @q15 (And.intro @q18 (And.intro @hel (And.intro @hw (And.intro @hp @hx))))))))))));repeat' (first|((with_reducible apply G.a);exact rfl)|refine G.reg fun K hK=>?_|(with_reducible (refine hK _ _ ?_);clear hK K)|(with_reducible (refine hK _ ?_);clear hK K;intro wd hxd;have hS:=Sep.xx hxd)|((first|have hk:=hK|have hk:=hK2);clear hk;simp (disch:=first|exact dis|fail) only [push_cast,↓reduceIte,zq1,zq2,zq3,zq4,zq5,fct])|((first|refine brO_n ?_ ?_|refine brQ_n ?_ ?_)<;>intro hb hc<;>first|(with_reducible exact False.elim hc)|(exfalso;omega)|(simp only [hb];clear hb))|((first|refine zalc ?_|refine zbsl ?_|((with_reducible refine gBox ?_);refine zbox ?_));intro gb wb hS)|((with_reducible refine gSt ?_);refine zs2 ?_;intro wb hS)|(refine zco 31 (pick_spec (r:=r) (places:=p) hrk (Sep.rd hS (by repeat constructor)) hpl) ?_;rintro vb wb ⟨fv,rfl,hS2⟩;have hS:=hS2.ap;simp only [apps] at hS)|(refine zco 32 (row_spec (r:=(pickM r p).1) (l:=l) (Sep.rd hS (by repeat constructor)) (h1.ext hS.x) c1 (by omega) (hv.ext hS.x)) ?_;rintro vb wb ⟨lv,rfl,hS2⟩;have hS:=hS2.ap;simp only [apps] at hS)|(refine zap ?_;intro vb wb hS)|(refine G.drt mixed fun K hK wd hxd=>?_;have hS:=Sep.xx hxd)|with_reducible refine OT_leaf ?_|(with_reducible (refine hK2 _ ?_);clear hK2 K2;intro wd hxd;have hS:=Sep.xx hxd)|with_reducible refine OT_br fun K2 hK2=>?_|(refine hK2 _ _ ?_ ?_<;>clear hK2 K2)|refine G.drg mixed fun K hK=>?_|(refine G.cn ?_ ?_<;>intro hc<;>first|(with_reducible exact False.elim hc)|(exfalso;omega)|skip)))<;>(try clear fct)
                  all_goals
                    clear hS2
                    have hS:=hS.frzPush (.h) (.t (.t .h))
                    (have fct:=(And.intro @q89 (And.intro @q88 (And.intro @q87 (And.intro @q1 (And.intro @q9 (And.intro @q13 (And.intro @q14 (And.intro @q15 @q18))))))));repeat' (first|((with_reducible apply G.a);exact rfl)|refine G.reg fun K hK=>?_|(with_reducible (refine hK _ _ ?_);clear hK K)|(with_reducible (refine hK _ ?_);clear hK K;intro wd hxd;have hS:=Sep.xx hxd)|((first|have hk:=hK|have hk:=hK2);clear hk;simp (disch:=first|exact dis|fail) only [push_cast,↓reduceIte,zq1,zq2,zq3,zq4,zq5,fct])|((first|refine brO_n ?_ ?_|refine brQ_n ?_ ?_)<;>intro hb hc<;>first|(with_reducible exact False.elim hc)|(exfalso;omega)|(simp only [hb];clear hb))|((first|refine zalc ?_|refine zbsl ?_|((with_reducible refine gBox ?_);refine zbox ?_));intro gb wb hS)|((with_reducible refine gSt ?_);refine zs2 ?_;intro wb hS)|(refine G.drt mixed fun K hK wd hxd=>?_;have hS:=Sep.xx hxd)|with_reducible refine OT_leaf ?_|(with_reducible (refine hK2 _ ?_);clear hK2 K2;intro wd hxd;have hS:=Sep.xx hxd)|with_reducible refine OT_br fun K2 hK2=>?_|(refine hK2 _ _ ?_ ?_<;>clear hK2 K2)|refine G.drg mixed fun K hK=>?_|(refine G.cn ?_ ?_<;>intro hc<;>first|(with_reducible exact False.elim hc)|(exfalso;omega)|skip)))<;>(try clear fct)
                    have fct:=(And.intro @q89 (And.intro @q88 (And.intro @q87 (And.intro @q1 (And.intro @q9 (And.intro @q13 (And.intro @q14 (And.intro @q15 @q18))))))));refine ih _ _ ⟨k+1,vb,us++[lv],out++[(rowM (pickM r p).1 l).1],by omega,by simp [ho],by exact sf,by exact sf,by exact sf,by exact sf,by exact sf,by exact sf,by exact sf,by exact sf,by exact sf,e,(Sep.sub hS (by repeat first|exact Sub.rfl'|exact Sub.n|exact Sub.nil0|(refine Sub.c (by repeat constructor) ?_)|refine Sub.skip ?_))⟩ ?_
                    rw [hmk];simp only [push_cast,↓reduceIte,zq1,zq2,zq3,zq4,zq5,toN_i,q89,q88,q87,q1,q9,q13,q14,q15,q18];omega
          · rw [rdF_end _ _ _ _ _ t k out hlt] at e
            rw [e]
            by_cases hk0:fk=0
            · rw [if_neg (not_not_intro hk0)]
              (have fct:=(And.intro @q89 (And.intro @q88 (And.intro @q87 (And.intro @q1 (And.intro @q9 (And.intro @q13 (And.intro @q14 (And.intro @q15 (And.intro @q18 @hk0)))))))));repeat' (first|((with_reducible apply G.a);exact rfl)|refine G.reg fun K hK=>?_|(with_reducible (refine hK _ _ ?_);clear hK K)|(with_reducible (refine hK _ ?_);clear hK K;intro wd hxd;have hS:=Sep.xx hxd)|((first|have hk:=hK|have hk:=hK2);clear hk;simp (disch:=first|exact dis|fail) only [push_cast,↓reduceIte,zq1,zq2,zq3,zq4,zq5,fct])|((first|refine brO_n ?_ ?_|refine brQ_n ?_ ?_)<;>intro hb hc<;>first|(with_reducible exact False.elim hc)|(exfalso;omega)|(simp only [hb];clear hb))|((first|refine zalc ?_|refine zbsl ?_|((with_reducible refine gBox ?_);refine zbox ?_));intro gb wb hS)|((with_reducible refine gSt ?_);refine zs2 ?_;intro wb hS)|(refine G.drt mixed fun K hK wd hxd=>?_;have hS:=Sep.xx hxd)|with_reducible refine OT_leaf ?_|(with_reducible (refine hK2 _ ?_);clear hK2 K2;intro wd hxd;have hS:=Sep.xx hxd)|with_reducible refine OT_br fun K2 hK2=>?_|(refine hK2 _ _ ?_ ?_<;>clear hK2 K2)|refine G.drg mixed fun K hK=>?_|(refine G.cn ?_ ?_<;>intro hc<;>first|(with_reducible exact False.elim hc)|(exfalso;omega)|skip)))<;>(try clear fct)
              all_goals
                (have fct:=(And.intro @q89 (And.intro @q88 (And.intro @q87 (And.intro @q1 (And.intro @q9 (And.intro @q13 (And.intro @q14 (And.intro @q15 @q18))))))));(first|refine G.r1 ?_|refine G.r2 ?_|refine G.r3 ?_|refine G.r0 ?_|refine G.d0 ?_);(try simp (disch:=first|exact dis|fail) only [push_cast,↓reduceIte,zq1,zq2,zq3,zq4,zq5,fct]);(try clear fct))
                exact ⟨rv,us,rfl,(Sep.sub hS (by repeat first|exact Sub.rfl'|exact Sub.n|exact Sub.nil0|(refine Sub.c (by repeat constructor) ?_)|refine Sub.skip ?_))⟩
            · rw [if_pos hk0]
              (have fct:=(And.intro @q89 (And.intro @q88 (And.intro @q87 (And.intro @q1 (And.intro @q9 (And.intro @q13 (And.intro @q14 (And.intro @q15 (And.intro @q18 @hk0)))))))));repeat' (first|((with_reducible apply G.a);exact rfl)|refine G.reg fun K hK=>?_|(with_reducible (refine hK _ _ ?_);clear hK K)|(with_reducible (refine hK _ ?_);clear hK K;intro wd hxd;have hS:=Sep.xx hxd)|((first|have hk:=hK|have hk:=hK2);clear hk;simp (disch:=first|exact dis|fail) only [push_cast,↓reduceIte,zq1,zq2,zq3,zq4,zq5,fct])|((first|refine brO_n ?_ ?_|refine brQ_n ?_ ?_)<;>intro hb hc<;>first|(with_reducible exact False.elim hc)|(exfalso;omega)|(simp only [hb];clear hb))|((first|refine zalc ?_|refine zbsl ?_|((with_reducible refine gBox ?_);refine zbox ?_));intro gb wb hS)|((with_reducible refine gSt ?_);refine zs2 ?_;intro wb hS)|(refine G.drt mixed fun K hK wd hxd=>?_;have hS:=Sep.xx hxd)|with_reducible refine OT_leaf ?_|(with_reducible (refine hK2 _ ?_);clear hK2 K2;intro wd hxd;have hS:=Sep.xx hxd)|with_reducible refine OT_br fun K2 hK2=>?_|(refine hK2 _ _ ?_ ?_<;>clear hK2 K2)|refine G.drg mixed fun K hK=>?_|(refine G.cn ?_ ?_<;>intro hc<;>first|(with_reducible exact False.elim hc)|(exfalso;omega)|skip)))<;>(try clear fct)
              all_goals
                (have fct:=(And.intro @q89 (And.intro @q88 (And.intro @q87 (And.intro @q1 (And.intro @q9 (And.intro @q13 (And.intro @q14 (And.intro @q15 @q18))))))));(first|refine G.r1 ?_|refine G.r2 ?_|refine G.r3 ?_|refine G.r0 ?_|refine G.d0 ?_);(try simp (disch:=first|exact dis|fail) only [push_cast,↓reduceIte,zq1,zq2,zq3,zq4,zq5,fct]);(try clear fct))
                exact RdR.none (b:=⟨fk,0,0,fa⟩) hS
set_option maxHeartbeats 1000000 in
theorem read_pre {n:Nat} {TT:MC} {v1:Value} (d:Dl) {l:List Col} (mode:Int) (s:Str) (w:World) (h1:Rd w eC v1 l) (hs:s.length≤800000) (hl1:l.length≤1000000000) (hl2:∀ c∈l,c.name.length≤100000000000) (hv:ErrV w)
    (ht:∀ {fk fa:Int} {recs:List (List Str)} {g14 g9:Nat} {v:Value} {vs:List Value} {ρ:Fr} {w':World},(1≤mode∧mode≤3)→(∀ r∈recs,r.length≤1000000000∧∀ f∈r,f.length≤1000000)→recs.length≤1000000000→Sep w w' [boxC g14 64 [I fk,I fa],accC v 28 eV vs,frzC eS vs recs,boxC g9 44 [I 0,I 0,I 0,I 0]]→ρ 1=v1→ρ 2=I mode→ρ 9=.pointer (some ⟨g9,0,none⟩)→ρ 13=v→ρ 14=.pointer (some ⟨g14,0,none⟩) →
      G Tryz.prog Tryz.f10 n [.c TT] (RdR w (rdT l mode fk fa recs)) ρ w') :
    G Tryz.prog Tryz.f10 n [.c (readV TT)] (RdR w (readM d l mode s)) (frL 0 [(.agg #[U d.dl,U d.q,I d.e]),v1,I mode,S s]) w:=by
  unfold readV c10
  dsimp only
  have hS:=Sep.start w
  unfold readM
  generalize hC:checkM (l.map nkC)=C at *
  by_cases hc1:C.2=0
  rotate_left
  · rw [if_pos hc1]
    (have fct:=(And.intro @hC @hc1);repeat' (first|((with_reducible apply G.a);exact rfl)|refine G.reg fun K hK=>?_|(with_reducible (refine hK _ _ ?_);clear hK K)|(with_reducible (refine hK _ ?_);clear hK K;intro wd hxd;have hS:=Sep.xx hxd)|((first|have hk:=hK|have hk:=hK2);clear hk;simp (disch:=first|exact dis|fail) only [push_cast,↓reduceIte,zq1,zq2,zq3,zq4,zq5,fct])|((first|refine brO_n ?_ ?_|refine brQ_n ?_ ?_)<;>intro hb hc<;>first|(with_reducible exact False.elim hc)|(exfalso;omega)|(simp only [hb];clear hb))|((first|refine zalc ?_|refine zbsl ?_|((with_reducible refine gBox ?_);refine zbox ?_));intro gb wb hS)|((with_reducible refine gSt ?_);refine zs2 ?_;intro wb hS)|(refine zcp 24 (check_spec (h1.ext hS.x) hl2) ?_;intro wb hS)|(refine zcp 25 (checkD_spec d _) ?_;intro wb hS)|(refine G.drt mixed fun K hK wd hxd=>?_;have hS:=Sep.xx hxd)|with_reducible refine OT_leaf ?_|(with_reducible (refine hK2 _ ?_);clear hK2 K2;intro wd hxd;have hS:=Sep.xx hxd)|with_reducible refine OT_br fun K2 hK2=>?_|(refine hK2 _ _ ?_ ?_<;>clear hK2 K2)|refine G.drg mixed fun K hK=>?_|(refine G.cn ?_ ?_<;>intro hc<;>first|(with_reducible exact False.elim hc)|(exfalso;omega)|skip)))<;>(try clear fct)
    all_goals
      (first|refine G.r1 ?_|refine G.r2 ?_|refine G.r3 ?_|refine G.r0 ?_|refine G.d0 ?_);(try simp (disch:=first|exact dis|fail) only [push_cast,↓reduceIte,zq1,zq2,zq3,zq4,zq5,fct])
      exact RdR.none (b:=⟨C.2,0,C.1,0⟩) hS
  · rw [if_neg (not_not_intro hc1)]
    by_cases hmo:mode < 1∨3 < mode
    · rw [if_pos hmo]
      (have fct:=(And.intro @hC @hc1);repeat' (first|((with_reducible apply G.a);exact rfl)|refine G.reg fun K hK=>?_|(with_reducible (refine hK _ _ ?_);clear hK K)|(with_reducible (refine hK _ ?_);clear hK K;intro wd hxd;have hS:=Sep.xx hxd)|((first|have hk:=hK|have hk:=hK2);clear hk;simp (disch:=first|exact dis|fail) only [push_cast,↓reduceIte,zq1,zq2,zq3,zq4,zq5,fct])|((first|refine brO_n ?_ ?_|refine brQ_n ?_ ?_)<;>intro hb hc<;>first|(with_reducible exact False.elim hc)|(exfalso;omega)|(simp only [hb];clear hb))|((first|refine zalc ?_|refine zbsl ?_|((with_reducible refine gBox ?_);refine zbox ?_));intro gb wb hS)|((with_reducible refine gSt ?_);refine zs2 ?_;intro wb hS)|(refine zcp 24 (check_spec (h1.ext hS.x) hl2) ?_;intro wb hS)|(refine zcp 25 (checkD_spec d _) ?_;intro wb hS)|(refine G.drt mixed fun K hK wd hxd=>?_;have hS:=Sep.xx hxd)|with_reducible refine OT_leaf ?_|(with_reducible (refine hK2 _ ?_);clear hK2 K2;intro wd hxd;have hS:=Sep.xx hxd)|with_reducible refine OT_br fun K2 hK2=>?_|(refine hK2 _ _ ?_ ?_<;>clear hK2 K2)|refine G.drg mixed fun K hK=>?_|(refine G.cn ?_ ?_<;>intro hc<;>first|(with_reducible exact False.elim hc)|(exfalso;omega)|skip)))<;>(try clear fct)
      all_goals
        (first|refine G.r1 ?_|refine G.r2 ?_|refine G.r3 ?_|refine G.r0 ?_|refine G.d0 ?_);(try simp (disch:=first|exact dis|fail) only [push_cast,↓reduceIte,zq1,zq2,zq3,zq4,zq5,fct])
        exact RdR.none (b:=⟨22,0,0,0⟩) hS
    · rw [if_neg hmo]
      have hm:1≤mode∧mode≤3:=by omega
      cases hr:rightD d
      · rw [if_pos rfl]
        (have fct:=(And.intro @hC (And.intro @hc1 @hr));repeat' (first|((with_reducible apply G.a);exact rfl)|refine G.reg fun K hK=>?_|(with_reducible (refine hK _ _ ?_);clear hK K)|(with_reducible (refine hK _ ?_);clear hK K;intro wd hxd;have hS:=Sep.xx hxd)|((first|have hk:=hK|have hk:=hK2);clear hk;simp (disch:=first|exact dis|fail) only [push_cast,↓reduceIte,zq1,zq2,zq3,zq4,zq5,fct])|((first|refine brO_n ?_ ?_|refine brQ_n ?_ ?_)<;>intro hb hc<;>first|(with_reducible exact False.elim hc)|(exfalso;omega)|(simp only [hb];clear hb))|((first|refine zalc ?_|refine zbsl ?_|((with_reducible refine gBox ?_);refine zbox ?_));intro gb wb hS)|((with_reducible refine gSt ?_);refine zs2 ?_;intro wb hS)|(refine zcp 24 (check_spec (h1.ext hS.x) hl2) ?_;intro wb hS)|(refine zcp 25 (checkD_spec d _) ?_;intro wb hS)|(refine G.drt mixed fun K hK wd hxd=>?_;have hS:=Sep.xx hxd)|with_reducible refine OT_leaf ?_|(with_reducible (refine hK2 _ ?_);clear hK2 K2;intro wd hxd;have hS:=Sep.xx hxd)|with_reducible refine OT_br fun K2 hK2=>?_|(refine hK2 _ _ ?_ ?_<;>clear hK2 K2)|refine G.drg mixed fun K hK=>?_|(refine G.cn ?_ ?_<;>intro hc<;>first|(with_reducible exact False.elim hc)|(exfalso;omega)|skip)))<;>(try clear fct)
        all_goals
          (first|refine G.r1 ?_|refine G.r2 ?_|refine G.r3 ?_|refine G.r0 ?_|refine G.d0 ?_);(try simp (disch:=first|exact dis|fail) only [push_cast,↓reduceIte,zq1,zq2,zq3,zq4,zq5,fct])
          exact RdR.none (b:=⟨1,0,0,0⟩) hS
      · rw [if_neg (by decide)]
        have hp:=fun w=>wpar_spec d s w (by omega) hr
        have hmb:=parM_mb d wideL s
        have hpl:=parM_len d wideL s
        generalize parM d wideL s=R at *
        (have fct:=(And.intro @hC (And.intro @hc1 @hr));repeat' (first|((with_reducible apply G.a);exact rfl)|refine G.reg fun K hK=>?_|(with_reducible (refine hK _ _ ?_);clear hK K)|(with_reducible (refine hK _ ?_);clear hK K;intro wd hxd;have hS:=Sep.xx hxd)|((first|have hk:=hK|have hk:=hK2);clear hk;simp (disch:=first|exact dis|fail) only [push_cast,↓reduceIte,zq1,zq2,zq3,zq4,zq5,fct])|((first|refine brO_n ?_ ?_|refine brQ_n ?_ ?_)<;>intro hb hc<;>first|(with_reducible exact False.elim hc)|(exfalso;omega)|(simp only [hb];clear hb))|((first|refine zalc ?_|refine zbsl ?_|((with_reducible refine gBox ?_);refine zbox ?_));intro gb wb hS)|((with_reducible refine gSt ?_);refine zs2 ?_;intro wb hS)|(refine zcp 24 (check_spec (h1.ext hS.x) hl2) ?_;intro wb hS)|(refine zcp 25 (checkD_spec d _) ?_;intro wb hS)|((with_reducible (show CallK _ 29 [] _ _ _ _));refine zcp 29 (wide_spec _) ?_;intro wb hS)|(refine zco 17 (hp _) ?_;rintro vb wb ⟨v,vs,rfl,hvl,hS2⟩;have hS:=hS2.ap;simp only [apps] at hS)|(refine G.drt mixed fun K hK wd hxd=>?_;have hS:=Sep.xx hxd)|with_reducible refine OT_leaf ?_|(with_reducible (refine hK2 _ ?_);clear hK2 K2;intro wd hxd;have hS:=Sep.xx hxd)|with_reducible refine OT_br fun K2 hK2=>?_|(refine hK2 _ _ ?_ ?_<;>clear hK2 K2)|refine G.drg mixed fun K hK=>?_|(refine G.cn ?_ ?_<;>intro hc<;>first|(with_reducible exact False.elim hc)|(exfalso;omega)|skip)))<;>(try clear fct)
        all_goals
          refine ht (g14:=gb) (vs:=vs) hm (fun r hr=>?_) (by rw [List.length_map];omega) (Sep.sub hS (by repeat first|exact Sub.rfl'|exact Sub.n|exact Sub.nil0|(refine Sub.c (by repeat constructor) ?_)|refine Sub.skip ?_)) (by simp only [push_cast,↓reduceIte,zq1,zq2,zq3,zq4,zq5]) (by simp only [push_cast,↓reduceIte,zq1,zq2,zq3,zq4,zq5]) (by simp only [push_cast,↓reduceIte,zq1,zq2,zq3,zq4,zq5]<;>rfl) (by simp only [push_cast,↓reduceIte,zq1,zq2,zq3,zq4,zq5]) (by simp only [push_cast,↓reduceIte,zq1,zq2,zq3,zq4,zq5])
          have hb:=hmb r hr
          exact ⟨by omega,fun f hf=>by have:=hb.2 f hf;omega⟩
theorem read_spec {v1:Value} (d:Dl) {l:List Col} (mode:Int) (s:Str) (w:World) (h1:Rd w eC v1 l) (hs:s.length≤800000) (hl1:l.length≤1000000000) (hl2:∀ c∈l,c.name.length≤100000000000) (hv:ErrV w) :
    Ret Tryz.prog 10 #[(.agg #[U d.dl,U d.q,I d.e]),v1,I mode,S s] w (RdR w (readM d l mode s)):=by
  refine in10 ?_
  change G _ _ _ [.c (readV readT)] _ _ _
  exact read_pre d mode s w h1 hs hl1 hl2 hv fun hm hmb hrl hS q1 q2 q9 q13 q14=>read_tail h1 hm hl1 hl2 hv hmb hrl hS q1 q2 q9 q13 q14
end Go.Proofs.YtjajihaeoolefaaGreatDoor
