/- Texts of the proof, joined. -/
import Derived.Test.YtllanbmpacgigaaGreatDoorDF30
import Derived.Test.YtllanbmpacgigaaGreatDoorDWu
namespace Go.Proofs.YtllanbmpacgigaaGreatDoor
open Nat renaming reduceAdd→zq1,reduceLeDiff→zq2,reduceEqDiff→zq3,reduceLT→zq4
open Int renaming reduceToNat→zq5
set_option linter.unusedSimpArgs false
set_option linter.unusedVariables false
attribute [local irreducible] SemK UnitK StK AlcK BslK CallK CallV Instr.box Builtin.append_ Instr.makeSlice Instr.makeMap Instr.lookup Instr.mapUpdate Instr.sliceAt convert
open Go.RowKit
section
variable {g r:Nat} {d:Dl} {lv:Value} {m:Str→Option Str} {M:List Chk} {w w0:World}
def c80:MC:=(.seq (.reg [qq 4 (.mv (.const (S [])))]) (.seq (.drg [qm 8 0,qq 9 (.nck (.tmp 8)),qq 10 (.fad 0 (.tmp 9)),qq 11 (.ld (.some 3) (.tmp 10)),qq 12 (.call 72 []),qm 13 1,qq 14 (.call 38 [(.tmp 11),(.tmp 12),(.tmp 13)]),qm 7 14,qq 15 (.ext 0 (.tmp 7)),qq 16 (.ext 1 (.tmp 7)),qq 6 (.alc 77 [(.int .i64 0),(.int .i64 0)]),qm 5 15,qn (.st 2 (.tmp 6) (.tmp 16))] (.some (.br [qm 8 0,qq 9 (.nck (.tmp 8)),qq 10 (.fad 0 (.tmp 9)),qm 13 1] (.br [qq 11 (.ld (.some 3) (.tmp 10))] (.br [qq 12 (.call 72 [])] (.leaf [qq 14 (.call 38 [(.tmp 11),(.tmp 12),(.tmp 13)]),qm 7 14,qq 15 (.ext 0 (.tmp 7)),qq 16 (.ext 1 (.tmp 7)),qq 6 (.alc 77 [(.int .i64 0),(.int .i64 0)]),qm 5 15,qn (.st 2 (.tmp 6) (.tmp 16))]) (.leaf [qq 6 (.alc 77 [(.int .i64 0),(.int .i64 0)]),qq 14 (.call 38 [(.tmp 11),(.tmp 12),(.tmp 13)]),qm 7 14,qq 15 (.ext 0 (.tmp 7)),qq 16 (.ext 1 (.tmp 7)),qm 5 15,qn (.st 2 (.tmp 6) (.tmp 16))])) (.leaf [qq 6 (.alc 77 [(.int .i64 0),(.int .i64 0)]),qq 12 (.call 72 []),qq 14 (.call 38 [(.tmp 11),(.tmp 12),(.tmp 13)]),qm 7 14,qq 15 (.ext 0 (.tmp 7)),qq 16 (.ext 1 (.tmp 7)),qm 5 15,qn (.st 2 (.tmp 6) (.tmp 16))])) (.br [] (.br [qq 12 (.call 72 [])] (.br [qq 11 (.ld (.some 3) (.tmp 10))] (.leaf [qq 14 (.call 38 [(.tmp 11),(.tmp 12),(.tmp 13)]),qm 7 14,qq 15 (.ext 0 (.tmp 7)),qq 16 (.ext 1 (.tmp 7)),qq 6 (.alc 77 [(.int .i64 0),(.int .i64 0)]),qm 5 15,qn (.st 2 (.tmp 6) (.tmp 16))]) (.leaf [qq 6 (.alc 77 [(.int .i64 0),(.int .i64 0)]),qq 14 (.call 38 [(.tmp 11),(.tmp 12),(.tmp 13)]),qm 7 14,qq 15 (.ext 0 (.tmp 7)),qq 16 (.ext 1 (.tmp 7)),qm 5 15,qn (.st 2 (.tmp 6) (.tmp 16))])) (.leaf [qq 6 (.alc 77 [(.int .i64 0),(.int .i64 0)]),qq 11 (.ld (.some 3) (.tmp 10)),qq 14 (.call 38 [(.tmp 11),(.tmp 12),(.tmp 13)]),qm 7 14,qq 15 (.ext 0 (.tmp 7)),qq 16 (.ext 1 (.tmp 7)),qm 5 15,qn (.st 2 (.tmp 6) (.tmp 16))])) (.br [qq 6 (.alc 77 [(.int .i64 0),(.int .i64 0)])] (.leaf [qq 11 (.ld (.some 3) (.tmp 10)),qq 12 (.call 72 []),qq 14 (.call 38 [(.tmp 11),(.tmp 12),(.tmp 13)]),qm 7 14,qq 15 (.ext 0 (.tmp 7)),qq 16 (.ext 1 (.tmp 7)),qm 5 15,qn (.st 2 (.tmp 6) (.tmp 16))]) (.leaf [qq 12 (.call 72 []),qq 11 (.ld (.some 3) (.tmp 10)),qq 14 (.call 38 [(.tmp 11),(.tmp 12),(.tmp 13)]),qm 7 14,qq 15 (.ext 0 (.tmp 7)),qq 16 (.ext 1 (.tmp 7)),qm 5 15,qn (.st 2 (.tmp 6) (.tmp 16))])))))) (.seq (.seq (.reg [qq 17 (.fad 0 (.tmp 6)),qq 18 (.ld none (.tmp 17)),qq 19 (.bin .neq (.tmp 18) (ki 0))]) (.cond (.tmp 19) (.seq (.drg [qq 20 (.fad 0 (.tmp 6)),qq 21 (.ld none (.tmp 20)),qq 22 (.call 30 [(.tmp 21)]),qq 23 (.bin .add (.const (S [102,97,117,108,116,32])) (.tmp 22)),qq 24 (.bin .add (.tmp 23) (.const (S [32]))),qq 25 (.fad 1 (.tmp 6)),qq 26 (.ld none (.tmp 25)),qq 27 (.call 30 [(.tmp 26)]),qq 28 (.bin .add (.tmp 24) (.tmp 27)),qm 4 28] (.some (.br [qq 20 (.fad 0 (.tmp 6)),qq 25 (.fad 1 (.tmp 6))] (.br [qq 21 (.ld none (.tmp 20))] (.leaf [qq 22 (.call 30 [(.tmp 21)]),qq 23 (.bin .add (.const (S [102,97,117,108,116,32])) (.tmp 22)),qq 24 (.bin .add (.tmp 23) (.const (S [32]))),qq 26 (.ld none (.tmp 25)),qq 27 (.call 30 [(.tmp 26)]),qq 28 (.bin .add (.tmp 24) (.tmp 27)),qm 4 28]) (.leaf [qq 26 (.ld none (.tmp 25)),qq 22 (.call 30 [(.tmp 21)]),qq 23 (.bin .add (.const (S [102,97,117,108,116,32])) (.tmp 22)),qq 24 (.bin .add (.tmp 23) (.const (S [32]))),qq 27 (.call 30 [(.tmp 26)]),qq 28 (.bin .add (.tmp 24) (.tmp 27)),qm 4 28])) (.leaf [qq 26 (.ld none (.tmp 25)),qq 21 (.ld none (.tmp 20)),qq 22 (.call 30 [(.tmp 21)]),qq 23 (.bin .add (.const (S [102,97,117,108,116,32])) (.tmp 22)),qq 24 (.bin .add (.tmp 23) (.const (S [32]))),qq 27 (.call 30 [(.tmp 26)]),qq 28 (.bin .add (.tmp 24) (.tmp 27)),qm 4 28])))) .ret) .skip)) (.seq (.reg [qm 29 5,qq 30 (.len (.tmp 29)),qq 31 (.call 30 [(.tmp 30)]),qq 32 (.bin .add (.const (S [114,101,99,111,114,100,115,32])) (.tmp 31)),qm 4 32]) .ret))))
theorem k80:conv Tryz.prog 33 (Tryz.f80.body.getD .skip)=c80:=by kernel_rfl
theorem in80 {a0 a1:Value} {w:World} {R:Value→World→Prop} (h:G Tryz.prog Tryz.f80 33 [.c c80] R (frL 0 [a0,a1]) w):Ret Tryz.prog 80 #[a0,a1] w R:=G.enter (args:=[a0,a1]) Tryz.func80 (c:=Tryz.f80.body.getD .skip) (by kernel_rfl) (by kernel_rfl) (by simp) k80 h
set_option maxHeartbeats 1000000 in
theorem dcheck_spec (s:Str) (hl:s.length≤900000) (hr:rightD d=true) (hk:(parM d wideL s).k=0) (ht:Tab w0) (hS:Sep w0 w (boxC g 55 [U d.dl,U d.q,I d.e,lv,.map (some r)] :: mapC r S m :: M)) :
    Ret Tryz.prog 80 #[(.pointer (some ⟨g,0,none⟩)),S s] w fun res w'=>res=S ([114,101,99,111,114,100,115,32]++Lib.itoa (parM d wideL s).rs.length)∧Sep w0 w' (boxC g 55 [U d.dl,U d.q,I d.e,lv,.map (some r)] :: mapC r S m :: M):=by
  refine in80 ?_
  have hp:=fun w=>wpar_spec d s w hl hr
  have hn:=parM_len d wideL s
  have hb:=itoa_ln (parM d wideL s).rs.length (by omega) (by omega)
  generalize parM d wideL s=R at *
  have hit:∀ {k:Nat} {w2:World},k=R.rs.length→Ext w0 w2→Pu Tryz.prog 30 #[I k] w2 (S (Lib.itoa R.rs.length)):=fun {k w2} h hx=>by rw [h];exact itoa_spec _ _ (by omega) (by omega) (ht.ext hx)
  (have fct:=@hk;repeat' (first|((with_reducible apply G.a);exact rfl)|refine G.reg fun K hK=>?_|(with_reducible (refine hK _ _ ?_);clear hK K)|(with_reducible (refine hK _ ?_);clear hK K;intro wd hxd;have hS:=Sep.xx hxd)|((first|have hk:=hK|have hk:=hK2);clear hk;simp (disch:=first|exact dis|fail) only [push_cast,↓reduceIte,zq1,zq2,zq3,zq4,zq5,fct])|(refine zalc ?_;intro gb wb hS)|((with_reducible refine gSt ?_);refine zs2 ?_;intro wb hS)|(with_reducible refine And.intro (a:=OT _ _ _ _ _) (b:=OT _ _ _ _ _) ?_ ?_)|((with_reducible (show CallK _ 72 [] _ _ _ _));refine zcp 72 (wide_spec _) ?_;intro wb hS)|(refine zco 38 (hp _) ?_;rintro vb wb ⟨v,vs,rfl,hvl,hS2⟩;have hS:=hS2.ap;simp only [apps] at hS)|(refine zcp 30 (hit hvl (Sep.xt (by assumption))) ?_;intro wb hS)|(refine G.drt mixed fun K hK wd hxd=>?_;have hS:=Sep.xx hxd)|with_reducible refine OT_leaf ?_|(with_reducible (refine hK2 _ ?_);clear hK2 K2;intro wd hxd;have hS:=Sep.xx hxd)|with_reducible refine OT_br fun K2 hK2=>?_|(refine hK2 _ _ ?_ ?_<;>clear hK2 K2)|refine G.drg mixed fun K hK=>?_|(refine G.cn ?_ ?_<;>intro hc<;>first|(with_reducible exact False.elim hc)|(exfalso;omega)|skip)))<;>(try clear fct)
  all_goals
    (first|refine G.r1 ?_|refine G.r2 ?_|refine G.r3 ?_|refine G.r0 ?_|refine G.d0 ?_);(try simp (disch:=first|exact dis|fail) only [push_cast,↓reduceIte,zq1,zq2,zq3,zq4,zq5,fct])
    (first|exact (Sep.sub hS (by repeat first|exact Sub.rfl'|exact Sub.n|(refine Sub.c (by repeat constructor) ?_)|refine Sub.skip ?_))|exact ⟨rfl,(Sep.sub hS (by repeat first|exact Sub.rfl'|exact Sub.n|(refine Sub.c (by repeat constructor) ?_)|refine Sub.skip ?_))⟩)
def c81:MC:=(.seq (.reg [qq 6 (.mv (.const (S []))),qq 7 (.mv (ki 0))]) (.seq (.drg [qm 14 0,qq 15 (.nck (.tmp 14)),qq 16 (.fad 0 (.tmp 15)),qq 17 (.ld (.some 3) (.tmp 16)),qq 18 (.call 72 []),qm 19 2,qq 20 (.call 38 [(.tmp 17),(.tmp 18),(.tmp 19)]),qm 13 20,qq 21 (.ext 0 (.tmp 13)),qq 22 (.ext 1 (.tmp 13)),qq 9 (.alc 77 [(.int .i64 0),(.int .i64 0)]),qm 8 21,qn (.st 2 (.tmp 9) (.tmp 22))] (.some (.br [qm 14 0,qq 15 (.nck (.tmp 14)),qq 16 (.fad 0 (.tmp 15)),qm 19 2] (.br [qq 17 (.ld (.some 3) (.tmp 16))] (.br [qq 18 (.call 72 [])] (.leaf [qq 20 (.call 38 [(.tmp 17),(.tmp 18),(.tmp 19)]),qm 13 20,qq 21 (.ext 0 (.tmp 13)),qq 22 (.ext 1 (.tmp 13)),qq 9 (.alc 77 [(.int .i64 0),(.int .i64 0)]),qm 8 21,qn (.st 2 (.tmp 9) (.tmp 22))]) (.leaf [qq 9 (.alc 77 [(.int .i64 0),(.int .i64 0)]),qq 20 (.call 38 [(.tmp 17),(.tmp 18),(.tmp 19)]),qm 13 20,qq 21 (.ext 0 (.tmp 13)),qq 22 (.ext 1 (.tmp 13)),qm 8 21,qn (.st 2 (.tmp 9) (.tmp 22))])) (.leaf [qq 9 (.alc 77 [(.int .i64 0),(.int .i64 0)]),qq 18 (.call 72 []),qq 20 (.call 38 [(.tmp 17),(.tmp 18),(.tmp 19)]),qm 13 20,qq 21 (.ext 0 (.tmp 13)),qq 22 (.ext 1 (.tmp 13)),qm 8 21,qn (.st 2 (.tmp 9) (.tmp 22))])) (.br [] (.br [qq 18 (.call 72 [])] (.br [qq 17 (.ld (.some 3) (.tmp 16))] (.leaf [qq 20 (.call 38 [(.tmp 17),(.tmp 18),(.tmp 19)]),qm 13 20,qq 21 (.ext 0 (.tmp 13)),qq 22 (.ext 1 (.tmp 13)),qq 9 (.alc 77 [(.int .i64 0),(.int .i64 0)]),qm 8 21,qn (.st 2 (.tmp 9) (.tmp 22))]) (.leaf [qq 9 (.alc 77 [(.int .i64 0),(.int .i64 0)]),qq 20 (.call 38 [(.tmp 17),(.tmp 18),(.tmp 19)]),qm 13 20,qq 21 (.ext 0 (.tmp 13)),qq 22 (.ext 1 (.tmp 13)),qm 8 21,qn (.st 2 (.tmp 9) (.tmp 22))])) (.leaf [qq 9 (.alc 77 [(.int .i64 0),(.int .i64 0)]),qq 17 (.ld (.some 3) (.tmp 16)),qq 20 (.call 38 [(.tmp 17),(.tmp 18),(.tmp 19)]),qm 13 20,qq 21 (.ext 0 (.tmp 13)),qq 22 (.ext 1 (.tmp 13)),qm 8 21,qn (.st 2 (.tmp 9) (.tmp 22))])) (.br [qq 9 (.alc 77 [(.int .i64 0),(.int .i64 0)])] (.leaf [qq 17 (.ld (.some 3) (.tmp 16)),qq 18 (.call 72 []),qq 20 (.call 38 [(.tmp 17),(.tmp 18),(.tmp 19)]),qm 13 20,qq 21 (.ext 0 (.tmp 13)),qq 22 (.ext 1 (.tmp 13)),qm 8 21,qn (.st 2 (.tmp 9) (.tmp 22))]) (.leaf [qq 18 (.call 72 []),qq 17 (.ld (.some 3) (.tmp 16)),qq 20 (.call 38 [(.tmp 17),(.tmp 18),(.tmp 19)]),qm 13 20,qq 21 (.ext 0 (.tmp 13)),qq 22 (.ext 1 (.tmp 13)),qm 8 21,qn (.st 2 (.tmp 9) (.tmp 22))])))))) (.seq (.seq (.reg [qq 23 (.fad 0 (.tmp 9)),qq 24 (.ld none (.tmp 23)),qq 25 (.bin .neq (.tmp 24) (ki 0))]) (.cond (.tmp 25) (.seq (.drg [qq 26 (.fad 0 (.tmp 9)),qq 27 (.ld none (.tmp 26)),qq 6 (.mv (.const (S []))),qm 7 27] none) .ret) .skip)) (.seq (.reg [qm 29 0,qq 30 (.nck (.tmp 29)),qq 31 (.fad 0 (.tmp 30)),qq 32 (.ld (.some 3) (.tmp 31)),qm 33 8,qq 34 (.call 118 [(.tmp 32),(.tmp 33)]),qm 28 34,qq 35 (.ext 0 (.tmp 28)),qq 36 (.ext 1 (.tmp 28)),qq 37 (.ext 2 (.tmp 28)),qm 10 35,qm 11 36,qm 12 37]) (.seq (.seq (.reg [qm 38 12,qq 39 (.bin .neq (.tmp 38) (ki 0))]) (.cond (.tmp 39) (.seq (.reg [qm 40 12,qq 6 (.mv (.const (S []))),qm 7 40]) .ret) .skip)) (.seq (.reg [qm 41 0,qq 42 (.nck (.tmp 41)),qq 43 (.fad 4 (.tmp 42)),qq 44 (.ld none (.tmp 43)),qm 45 1,qm 46 10,qn (.raw (.mapUpdate 52 (.tmp 44) (.tmp 45) (.tmp 46)) 0)]) (.seq (.reg [qq 6 (.mv (.const (S [111,107]))),qq 7 (.mv (ki 0))]) .ret)))))))
theorem k81:conv Tryz.prog 47 (Tryz.f81.body.getD .skip)=c81:=by kernel_rfl
theorem in81 {a0 a1 a2:Value} {w:World} {R:Value→World→Prop} (h:G Tryz.prog Tryz.f81 47 [.c c81] R (frL 0 [a0,a1,a2]) w):Ret Tryz.prog 81 #[a0,a1,a2] w R:=G.enter (args:=[a0,a1,a2]) Tryz.func81 (c:=Tryz.f81.body.getD .skip) (by kernel_rfl) (by kernel_rfl) (by simp) k81 h
set_option maxHeartbeats 1000000 in
theorem dplain_spec1 (nm s:Str) (hl:s.length≤900000) (hd:byD d) (hr:rightD d=true) {R:Rs} (hR:parM d wideL s=R) (hmb:TabB 1000 1000 (R.rs.map Prod.fst)) (htl:R.rs.length≤1000) (hk:R.k=0) (hf:frN (R.rs.map Prod.fst)=R.rs.length) (hS:Sep w0 w (boxC g 55 [U d.dl,U d.q,I d.e,lv,.map (some r)] :: mapC r S m :: M)) :
    Ret Tryz.prog 81 #[(.pointer (some ⟨g,0,none⟩)),S nm,S s] w fun res w'=>res=.tuple #[S [111,107],I 0]∧Sep w0 w' (boxC g 55 [U d.dl,U d.q,I d.e,lv,.map (some r)] :: mapC r S (mput m nm (txtF d true (R.rs.map Prod.fst))) :: M):=by
  refine in81 ?_
  have hp:=fun w=>wpar_spec d s w hl hr
  rw [hR] at hp
  have hwt:wtV d (R.rs.map Prod.fst)=.tuple #[S (txtF d true (R.rs.map Prod.fst)),I R.rs.length,I 0]:=by unfold wtV;rw [List.length_map,if_pos hf]
  have hwb:=fun {v:Value} {w:World} h=>wtb_spec (v:=v) (w:=w) d hd hr h hmb (by rw [List.length_map];omega)
  rw [hwt] at hwb
  (have fct:=@hk;repeat' (first|((with_reducible apply G.a);exact rfl)|refine G.reg fun K hK=>?_|(with_reducible (refine hK _ _ ?_);clear hK K)|(with_reducible (refine hK _ ?_);clear hK K;intro wd hxd;have hS:=Sep.xx hxd)|((first|have hk:=hK|have hk:=hK2);clear hk;simp (disch:=first|exact dis|fail) only [push_cast,↓reduceIte,zq1,zq2,zq3,zq4,zq5,fct])|(refine zalc ?_;intro gb wb hS)|((with_reducible refine gSt ?_);refine zs2 ?_;intro wb hS)|(with_reducible refine And.intro (a:=OT _ _ _ _ _) (b:=OT _ _ _ _ _) ?_ ?_)|((with_reducible (show CallK _ 72 [] _ _ _ _));refine zcp 72 (wide_spec _) ?_;intro wb hS)|(refine zco 38 (hp _) ?_;rintro vb wb ⟨v,vs,rfl,hvl,hS2⟩;have hS:=hS2.ap;simp only [apps] at hS)|(refine zcp 118 (hwb (Sep.rdT hS (by repeat constructor) (by repeat constructor))) ?_;intro wb hS)|(refine zmu ?_;intro wb hS)|(refine G.drt mixed fun K hK wd hxd=>?_;have hS:=Sep.xx hxd)|with_reducible refine OT_leaf ?_|(with_reducible (refine hK2 _ ?_);clear hK2 K2;intro wd hxd;have hS:=Sep.xx hxd)|with_reducible refine OT_br fun K2 hK2=>?_|(refine hK2 _ _ ?_ ?_<;>clear hK2 K2)|refine G.drg mixed fun K hK=>?_|(refine G.cn ?_ ?_<;>intro hc<;>first|(with_reducible exact False.elim hc)|(exfalso;omega)|skip)))<;>(try clear fct)
  all_goals
    (first|refine G.r1 ?_|refine G.r2 ?_|refine G.r3 ?_|refine G.r0 ?_|refine G.d0 ?_);(try simp (disch:=first|exact dis|fail) only [push_cast,↓reduceIte,zq1,zq2,zq3,zq4,zq5,fct])
    (first|exact (Sep.sub hS (by repeat first|exact Sub.rfl'|exact Sub.n|(refine Sub.c (by repeat constructor) ?_)|refine Sub.skip ?_))|exact ⟨rfl,(Sep.sub hS (by repeat first|exact Sub.rfl'|exact Sub.n|(refine Sub.c (by repeat constructor) ?_)|refine Sub.skip ?_))⟩)
theorem frN_bad:∀ t:List (List Str),frN t≠t.length→mayR (t.getD (frN t) default)≠0
  | [],h=>absurd rfl h
  | r :: t,h=>by
    rw [frN] at h ⊢
    by_cases h1:mayR r=0
    · rw [if_pos h1] at h ⊢
      have:=frN_bad t (by simpa using h)
      simpa using this
    · rw [if_neg h1];simpa using h1
theorem frN_all:∀ t:List (List Str),frN t=t.length→∀ r∈t,mayR r=0
  | [],_,r,hr=>by simp at hr
  | x :: t,h,r,hr=>by
    rw [frN] at h
    by_cases h1:mayR x=0
    · rw [if_pos h1] at h
      rcases List.mem_cons.1 hr with rfl|hr
      · exact h1
      · exact frN_all t (by simpa using h) r hr
    · rw [if_neg h1] at h;simp at h
theorem frN_of:∀ t:List (List Str),(∀ r∈t,mayR r=0)→frN t=t.length
  | [],_=>rfl
  | x :: t,h=>by rw [frN,if_pos (h x (by simp)),frN_of t fun r hr=>h r (by simp [hr])];rfl
theorem tabB_of (d:Dl) (l:Lm) (s:Str) (hl:s.length≤450):TabB 1000 1000 ((parM d l s).rs.map Prod.fst):=fun x hx=>⟨by have:=(parM_mb d l s x hx).1;omega,fun f hf=>by have:=(parM_mb d l s x hx).2 f hf;omega⟩
def plE (R:Rs):Int:=if R.k=0 then mayR ((R.rs.map Prod.fst).getD (frN (R.rs.map Prod.fst)) default) else R.k
set_option maxHeartbeats 1000000 in
theorem dplain_spec0 (nm s:Str) (hl:s.length≤900000) (hd:byD d) (hr:rightD d=true) {R:Rs} (hR:parM d wideL s=R) (hmb:TabB 1000 1000 (R.rs.map Prod.fst)) (htl:R.rs.length≤1000) (hf:R.k≠0∨frN (R.rs.map Prod.fst)≠R.rs.length) (hS:Sep w0 w (boxC g 55 [U d.dl,U d.q,I d.e,lv,.map (some r)] :: mapC r S m :: M)) :
    Ret Tryz.prog 81 #[(.pointer (some ⟨g,0,none⟩)),S nm,S s] w fun res w'=>res=.tuple #[S [],I (plE R)]∧Sep w0 w' (boxC g 55 [U d.dl,U d.q,I d.e,lv,.map (some r)] :: mapC r S m :: M):=by
  refine in81 ?_
  have hp:=fun w=>wpar_spec d s w hl hr
  rw [hR] at hp
  by_cases hk:R.k=0
  · have hf:=hf.resolve_left (fun h=>h hk)
    have he:plE R=mayR ((R.rs.map Prod.fst).getD (frN (R.rs.map Prod.fst)) default):=by unfold plE;rw [if_pos hk]
    have hen:=frN_bad (R.rs.map Prod.fst) (by rw [List.length_map];exact hf)
    rw [←he] at hen
    have hwt:wtV d (R.rs.map Prod.fst)=.tuple #[S [],I (frN (R.rs.map Prod.fst)),I (plE R)]:=by unfold wtV;rw [List.length_map,if_neg hf,he]
    have hwb:=fun {v:Value} {w:World} h=>wtb_spec (v:=v) (w:=w) d hd hr h hmb (by rw [List.length_map];omega)
    rw [hwt] at hwb
    generalize plE R=e at *
    (have fct:=@hk;repeat' (first|((with_reducible apply G.a);exact rfl)|refine G.reg fun K hK=>?_|(with_reducible (refine hK _ _ ?_);clear hK K)|(with_reducible (refine hK _ ?_);clear hK K;intro wd hxd;have hS:=Sep.xx hxd)|((first|have hk:=hK|have hk:=hK2);clear hk;simp (disch:=first|exact dis|fail) only [push_cast,↓reduceIte,zq1,zq2,zq3,zq4,zq5,fct])|(refine zalc ?_;intro gb wb hS)|((with_reducible refine gSt ?_);refine zs2 ?_;intro wb hS)|(with_reducible refine And.intro (a:=OT _ _ _ _ _) (b:=OT _ _ _ _ _) ?_ ?_)|((with_reducible (show CallK _ 72 [] _ _ _ _));refine zcp 72 (wide_spec _) ?_;intro wb hS)|(refine zco 38 (hp _) ?_;rintro vb wb ⟨v,vs,rfl,hvl,hS2⟩;have hS:=hS2.ap;simp only [apps] at hS)|(refine zcp 118 (hwb (Sep.rdT hS (by repeat constructor) (by repeat constructor))) ?_;intro wb hS)|(refine G.drt mixed fun K hK wd hxd=>?_;have hS:=Sep.xx hxd)|with_reducible refine OT_leaf ?_|(with_reducible (refine hK2 _ ?_);clear hK2 K2;intro wd hxd;have hS:=Sep.xx hxd)|with_reducible refine OT_br fun K2 hK2=>?_|(refine hK2 _ _ ?_ ?_<;>clear hK2 K2)|refine G.drg mixed fun K hK=>?_|(refine G.cn ?_ ?_<;>intro hc<;>first|(with_reducible exact False.elim hc)|(exfalso;omega)|skip)))<;>(try clear fct)
    all_goals
      (first|refine G.r1 ?_|refine G.r2 ?_|refine G.r3 ?_|refine G.r0 ?_|refine G.d0 ?_);(try simp (disch:=first|exact dis|fail) only [push_cast,↓reduceIte,zq1,zq2,zq3,zq4,zq5,fct])
      (first|exact (Sep.sub hS (by repeat first|exact Sub.rfl'|exact Sub.n|(refine Sub.c (by repeat constructor) ?_)|refine Sub.skip ?_))|exact ⟨rfl,(Sep.sub hS (by repeat first|exact Sub.rfl'|exact Sub.n|(refine Sub.c (by repeat constructor) ?_)|refine Sub.skip ?_))⟩)
  · have he:plE R=R.k:=by unfold plE;rw [if_neg hk]
    rw [he]
    repeat' (first|((with_reducible apply G.a);exact rfl)|refine G.reg fun K hK=>?_|(with_reducible (refine hK _ _ ?_);clear hK K)|(with_reducible (refine hK _ ?_);clear hK K;intro wd hxd;have hS:=Sep.xx hxd)|((first|have hk:=hK|have hk:=hK2);clear hk;simp (disch:=first|exact dis|fail) only [push_cast,↓reduceIte,zq1,zq2,zq3,zq4,zq5,fct])|(refine zalc ?_;intro gb wb hS)|((with_reducible refine gSt ?_);refine zs2 ?_;intro wb hS)|(with_reducible refine And.intro (a:=OT _ _ _ _ _) (b:=OT _ _ _ _ _) ?_ ?_)|((with_reducible (show CallK _ 72 [] _ _ _ _));refine zcp 72 (wide_spec _) ?_;intro wb hS)|(refine zco 38 (hp _) ?_;rintro vb wb ⟨v,vs,rfl,hvl,hS2⟩;have hS:=hS2.ap;simp only [apps] at hS)|(refine G.drt mixed fun K hK wd hxd=>?_;have hS:=Sep.xx hxd)|with_reducible refine OT_leaf ?_|(with_reducible (refine hK2 _ ?_);clear hK2 K2;intro wd hxd;have hS:=Sep.xx hxd)|with_reducible refine OT_br fun K2 hK2=>?_|(refine hK2 _ _ ?_ ?_<;>clear hK2 K2)|refine G.drg mixed fun K hK=>?_|(refine G.cn ?_ ?_<;>intro hc<;>first|(with_reducible exact False.elim hc)|(exfalso;omega)|skip))
    all_goals
      (first|refine G.r1 ?_|refine G.r2 ?_|refine G.r3 ?_|refine G.r0 ?_|refine G.d0 ?_);(try simp (disch:=first|exact dis|fail) only [push_cast,↓reduceIte,zq1,zq2,zq3,zq4,zq5,fct])
      (first|exact (Sep.sub hS (by repeat first|exact Sub.rfl'|exact Sub.n|(refine Sub.c (by repeat constructor) ?_)|refine Sub.skip ?_))|exact ⟨rfl,(Sep.sub hS (by repeat first|exact Sub.rfl'|exact Sub.n|(refine Sub.c (by repeat constructor) ?_)|refine Sub.skip ?_))⟩)
end
end Go.Proofs.YtllanbmpacgigaaGreatDoor
namespace Go.Proofs.YtllanbmpacgigaaGreatDoor
open Nat renaming reduceAdd→zq1,reduceLeDiff→zq2,reduceEqDiff→zq3,reduceLT→zq4
open Int renaming reduceToNat→zq5
set_option linter.unusedSimpArgs false
set_option linter.unusedVariables false
attribute [local irreducible] SemK UnitK StK AlcK BslK CallK CallV Instr.box Builtin.append_ Instr.makeSlice Instr.makeMap Instr.lookup Instr.mapUpdate Instr.sliceAt convert
open Go.RowKit
section
variable {g r:Nat} {d:Dl} {lv:Value} {m:Str→Option Str} {M:List Chk} {w w0:World}
theorem ne1:(([99,104,101,99,107]:Str) == [115,104,111,119])=false:=by decide
theorem ne2:(([112,108,97,105,110]:Str) == [115,104,111,119])=false:=by decide
theorem ne3:(([112,108,97,105,110]:Str) == [99,104,101,99,107])=false:=by decide
def c51:MC:=(.seq (.reg [qq 6 (.mv (.const (S []))),qq 7 (.mv (ki 0))]) (.seq (.seq (.reg [qm 12 2,qq 13 (.call 65 [(.tmp 12)]),qq 14 (.un .not (.tmp 13))]) (.cond (.tmp 14) (.seq (.reg [qq 6 (.mv (.const (S []))),qq 7 (.mv (ki 23))]) .ret) .skip)) (.seq (.reg [qm 16 0,qq 17 (.nck (.tmp 16)),qq 18 (.fad 4 (.tmp 17)),qq 19 (.ld none (.tmp 18)),qm 20 2,qq 21 (.raw (.lookup 52 (.tmp 19) (.tmp 20) true) 34),qm 15 21,qq 22 (.ext 0 (.tmp 15)),qq 23 (.ext 1 (.tmp 15)),qm 8 22,qm 9 23]) (.seq (.seq (.reg [qm 24 9,qq 25 (.un .not (.tmp 24))]) (.cond (.tmp 25) (.seq (.reg [qq 6 (.mv (.const (S []))),qq 7 (.mv (ki 25))]) .ret) .skip)) (.seq (.seq (.reg [qm 26 1]) (.blk 0 (.seq (.reg [qq 28 (.bin .eql (.tmp 26) (.const (S [115,104,111,119]))),qm 27 28]) (.cond (.tmp 27) (.seq (.reg [qm 29 8,qq 30 (.call 15 [(.tmp 29)]),qm 6 30,qq 7 (.mv (ki 0))]) .ret) (.seq (.reg [qq 32 (.bin .eql (.tmp 26) (.const (S [99,104,101,99,107]))),qm 31 32]) (.cond (.tmp 31) (.seq (.reg [qm 33 0,qm 34 8,qq 35 (.call 80 [(.tmp 33),(.tmp 34)]),qm 6 35,qq 7 (.mv (ki 0))]) .ret) (.seq (.reg [qq 37 (.bin .eql (.tmp 26) (.const (S [112,108,97,105,110]))),qm 36 37]) (.cond (.tmp 36) (.seq (.reg [qm 38 0,qm 39 2,qm 40 8,qq 41 (.call 81 [(.tmp 38),(.tmp 39),(.tmp 40)]),qq 42 (.ext 0 (.tmp 41)),qq 43 (.ext 1 (.tmp 41)),qm 6 42,qm 7 43]) .ret) (.seq (.reg [qq 45 (.bin .eql (.tmp 26) (.const (S [115,110,105,102,102]))),qm 44 45]) (.cond (.tmp 44) (.seq (.reg [qm 46 0,qm 47 8,qq 48 (.call 82 [(.tmp 46),(.tmp 47)]),qq 49 (.ext 0 (.tmp 48)),qq 50 (.ext 1 (.tmp 48)),qm 6 49,qm 7 50]) .ret) .skip)))))))))) (.seq (.reg [qm 52 0,qm 53 8,qq 54 (.call 75 [(.tmp 52),(.tmp 53)]),qm 51 54,qq 55 (.ext 0 (.tmp 51)),qq 56 (.ext 1 (.tmp 51)),qm 10 55,qm 11 56]) (.seq (.seq (.reg [qm 57 11,qq 58 (.bin .neq (.tmp 57) (ki 0))]) (.cond (.tmp 58) (.seq (.reg [qm 59 11,qq 6 (.mv (.const (S []))),qm 7 59]) .ret) .skip)) (.seq (.reg [qm 60 10,qq 61 (.len (.tmp 60)),qq 62 (.call 30 [(.tmp 61)]),qm 6 62,qq 7 (.mv (ki 0))]) .ret))))))))
theorem k51:conv Tryz.prog 63 (Tryz.f51.body.getD .skip)=c51:=by kernel_rfl
theorem in51 {a0 a1 a2:Value} {w:World} {R:Value→World→Prop} (h:G Tryz.prog Tryz.f51 63 [.c c51] R (frL 0 [a0,a1,a2]) w):Ret Tryz.prog 51 #[a0,a1,a2] w R:=G.enter (args:=[a0,a1,a2]) Tryz.func51 (c:=Tryz.f51.body.getD .skip) (by kernel_rfl) (by kernel_rfl) (by simp) k51 h
theorem nshow_spec (nm t:Str) (hl:nm.length≤100000000) (htl:t.length≤100000000000) (hn:nmM nm=true) (ht:m nm=some t) (hS:Sep w0 w (boxC g 55 [U d.dl,U d.q,I d.e,lv,.map (some r)] :: mapC r S m :: M)) :
    Ret Tryz.prog 51 #[(.pointer (some ⟨g,0,none⟩)),S [115,104,111,119],S nm] w fun v w'=>v=.tuple #[S (sqM t),I 0]∧Sep w0 w' (boxC g 55 [U d.dl,U d.q,I d.e,lv,.map (some r)] :: mapC r S m :: M):=by
  refine in51 ?_
  (have fct:=(And.intro @hn @ht);repeat' (first|((with_reducible apply G.a);exact rfl)|refine G.reg fun K hK=>?_|(with_reducible (refine hK _ _ ?_);clear hK K)|(have hk:=hK;clear hk;simp (disch:=first|exact dis|fail) only [push_cast,↓reduceIte,zq1,zq2,zq3,zq4,zq5,fct])|(refine zcp 65 (lnamed_spec _ _ (by omega)) ?_;intro wb hS)|(refine zlk ?_)|(refine zcp 15 (spellL_spec t _ htl) ?_;intro wb hS)|(refine G.cn ?_ ?_<;>intro hc<;>first|(with_reducible exact False.elim hc)|(exfalso;omega)|skip)))<;>(try clear fct)
  all_goals
    (first|refine G.r1 ?_|refine G.r2 ?_|refine G.r3 ?_|refine G.r0 ?_|refine G.d0 ?_);(try simp (disch:=first|exact dis|fail) only [push_cast,↓reduceIte,zq1,zq2,zq3,zq4,zq5,fct])
    (first|exact hS|exact ⟨rfl,hS⟩)
theorem ncheck_spec (nm t:Str) (hl:nm.length≤100000000) (htl:t.length≤900000) (hr:rightD d=true) (hk:(parM d wideL t).k=0) (hT:Tab w0) (hn:nmM nm=true) (ht:m nm=some t) (hS:Sep w0 w (boxC g 55 [U d.dl,U d.q,I d.e,lv,.map (some r)] :: mapC r S m :: M)) :
    Ret Tryz.prog 51 #[(.pointer (some ⟨g,0,none⟩)),S [99,104,101,99,107],S nm] w fun v w'=>v=.tuple #[S ([114,101,99,111,114,100,115,32]++Lib.itoa (parM d wideL t).rs.length),I 0]∧Sep w0 w' (boxC g 55 [U d.dl,U d.q,I d.e,lv,.map (some r)] :: mapC r S m :: M):=by
  refine in51 ?_
  have e1:=ne1
  (have fct:=(And.intro @hn (And.intro @ht @e1));repeat' (first|((with_reducible apply G.a);exact rfl)|refine G.reg fun K hK=>?_|(with_reducible (refine hK _ _ ?_);clear hK K)|(have hk:=hK;clear hk;simp (disch:=first|exact dis|fail) only [push_cast,↓reduceIte,zq1,zq2,zq3,zq4,zq5,fct])|(refine zcp 65 (lnamed_spec _ _ (by omega)) ?_;intro wb hS)|(refine zlk ?_)|(refine zco 80 (dcheck_spec t htl hr hk hT hS) ?_;rintro vb wb ⟨rfl,hS⟩)|(refine G.cn ?_ ?_<;>intro hc<;>first|(with_reducible exact False.elim hc)|(exfalso;omega)|skip)))<;>(try clear fct)
  all_goals
    (first|refine G.r1 ?_|refine G.r2 ?_|refine G.r3 ?_|refine G.r0 ?_|refine G.d0 ?_);(try simp (disch:=first|exact dis|fail) only [push_cast,↓reduceIte,zq1,zq2,zq3,zq4,zq5,fct])
    (first|exact hS|exact ⟨rfl,hS⟩)
theorem nplain_spec (nm t:Str) (hl:nm.length≤100000000) (v1:Str) (v2:Int) (m':Str→Option Str) (hp:∀ w,Sep w0 w (boxC g 55 [U d.dl,U d.q,I d.e,lv,.map (some r)] :: mapC r S m :: M)→Ret Tryz.prog 81 #[(.pointer (some ⟨g,0,none⟩)),S nm,S t] w fun res w'=>res=.tuple #[S v1,I v2]∧Sep w0 w' (boxC g 55 [U d.dl,U d.q,I d.e,lv,.map (some r)] :: mapC r S m' :: M)) (hn:nmM nm=true) (ht:m nm=some t) (hS:Sep w0 w (boxC g 55 [U d.dl,U d.q,I d.e,lv,.map (some r)] :: mapC r S m :: M)) :
    Ret Tryz.prog 51 #[(.pointer (some ⟨g,0,none⟩)),S [112,108,97,105,110],S nm] w fun v w'=>v=.tuple #[S v1,I v2]∧Sep w0 w' (boxC g 55 [U d.dl,U d.q,I d.e,lv,.map (some r)] :: mapC r S m' :: M):=by
  refine in51 ?_
  have e2:=ne2
  have e3:=ne3
  (have fct:=(And.intro @hn (And.intro @ht (And.intro @e2 @e3)));repeat' (first|((with_reducible apply G.a);exact rfl)|refine G.reg fun K hK=>?_|(with_reducible (refine hK _ _ ?_);clear hK K)|(have hk:=hK;clear hk;simp (disch:=first|exact dis|fail) only [push_cast,↓reduceIte,zq1,zq2,zq3,zq4,zq5,fct])|(refine zcp 65 (lnamed_spec _ _ (by omega)) ?_;intro wb hS)|(refine zlk ?_)|(refine zco 81 (hp _ hS) ?_;rintro vb wb ⟨rfl,hS⟩)|(refine G.cn ?_ ?_<;>intro hc<;>first|(with_reducible exact False.elim hc)|(exfalso;omega)|skip)))<;>(try clear fct)
  all_goals
    (first|refine G.r1 ?_|refine G.r2 ?_|refine G.r3 ?_|refine G.r0 ?_|refine G.d0 ?_);(try simp (disch:=first|exact dis|fail) only [push_cast,↓reduceIte,zq1,zq2,zq3,zq4,zq5,fct])
    (first|exact hS|exact ⟨rfl,hS⟩)
end
end Go.Proofs.YtllanbmpacgigaaGreatDoor
