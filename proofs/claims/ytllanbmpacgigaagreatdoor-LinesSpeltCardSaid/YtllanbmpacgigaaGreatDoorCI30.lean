/- Texts of the proof, joined. -/
import Derived.Test.YtllanbmpacgigaaGreatDoorCG30
import Derived.Test.YtllanbmpacgigaaGreatDoorCJ27
namespace Go.Proofs.YtllanbmpacgigaaGreatDoor
open Nat renaming reduceAdd→zq1,reduceLeDiff→zq2,reduceEqDiff→zq3,reduceLT→zq4
open Int renaming reduceToNat→zq5
set_option linter.unusedSimpArgs false
set_option linter.unusedVariables false
attribute [local irreducible] SemK UnitK StK AlcK BslK CallK CallV Instr.box Builtin.append_ Instr.makeSlice Instr.makeMap Instr.lookup Instr.mapUpdate Instr.sliceAt convert
open Go.RowKit
section
variable {g r:Nat} {d:Dl} {lv:Value} {m:Str→Option Str} {M:List Chk} {w w0:World}
def c48:MC:=(.seq (.reg [qq 4 (.mv (.const (S []))),qq 5 (.mv (ki 0))]) (.seq (.reg [qm 18 1,qq 19 (.call 44 [(.tmp 18),(.const (S [32]))]),qm 17 19,qq 20 (.ext 0 (.tmp 17)),qq 21 (.ext 1 (.tmp 17)),qq 22 (.ext 2 (.tmp 17)),qm 6 20,qm 7 21,qm 8 22]) (.seq (.reg [qm 24 7,qq 25 (.call 66 [(.tmp 24)]),qm 23 25,qq 26 (.ext 0 (.tmp 23)),qq 27 (.ext 1 (.tmp 23)),qm 9 26,qm 10 27]) (.seq (.seq (.reg [qm 28 8,qq 29 (.un .not (.tmp 28)),qm 30 29,qmf 30 31 6,qf 30 32 (.call 65 [(.tmp 31)]),qf 30 33 (.un .not (.tmp 32)),qq 34 (.pick (.tmp 30) (kb true) (.tmp 33)),qm 35 34,qmf 35 36 10,qf 35 37 (.un .not (.tmp 36)),qq 38 (.pick (.tmp 35) (kb true) (.tmp 37))]) (.cond (.tmp 38) (.seq (.reg [qq 4 (.mv (.const (S []))),qq 5 (.mv (ki 23))]) .ret) .skip)) (.seq (.reg [qm 40 0,qq 41 (.nck (.tmp 40)),qq 42 (.fad 4 (.tmp 41)),qq 43 (.ld none (.tmp 42)),qm 44 6,qq 45 (.raw (.lookup 52 (.tmp 43) (.tmp 44) true) 34),qm 39 45,qq 46 (.ext 0 (.tmp 39)),qq 47 (.ext 1 (.tmp 39)),qm 11 46,qm 10 47]) (.seq (.seq (.reg [qm 48 10,qq 49 (.un .not (.tmp 48))]) (.cond (.tmp 49) (.seq (.reg [qq 4 (.mv (.const (S []))),qq 5 (.mv (ki 25))]) .ret) .skip)) (.seq (.reg [qm 51 0,qq 52 (.nck (.tmp 51)),qq 53 (.fad 0 (.tmp 52)),qq 54 (.ld (.some 3) (.tmp 53)),qm 55 11,qq 56 (.call 67 [(.tmp 54),(.tmp 55)]),qm 50 56,qq 57 (.ext 0 (.tmp 50)),qq 58 (.ext 1 (.tmp 50)),qq 13 (.alc 77 [(.int .i64 0),(.int .i64 0)]),qm 12 57,qn (.st 2 (.tmp 13) (.tmp 58))]) (.seq (.seq (.reg [qm 59 12,qq 60 (.raw (.binOp .eql 101 (.tmp 59) (.const (.pointer none)) 101) 4)]) (.cond (.tmp 60) (.seq (.drg [qq 61 (.fad 0 (.tmp 13)),qq 62 (.ld none (.tmp 61)),qq 4 (.mv (.const (S []))),qm 5 62] none) .ret) .skip)) (.seq (.reg [qm 64 12,qm 65 9,qq 66 (.call 68 [(.tmp 64),(.tmp 65)]),qm 63 66,qq 67 (.ext 0 (.tmp 63)),qq 68 (.ext 1 (.tmp 63)),qm 14 67,qm 15 68]) (.seq (.seq (.reg [qm 69 15,qq 70 (.bin .neq (.tmp 69) (ki 0))]) (.cond (.tmp 70) (.seq (.reg [qm 71 15,qq 4 (.mv (.const (S []))),qm 5 71]) .ret) .skip)) (.seq (.reg [qm 73 0,qq 74 (.nck (.tmp 73)),qq 75 (.fad 0 (.tmp 74)),qq 76 (.ld (.some 3) (.tmp 75)),qm 77 14,qq 78 (.call 69 [(.tmp 76),(.tmp 77),(kb false)]),qm 72 78,qq 79 (.ext 0 (.tmp 72)),qq 80 (.ext 1 (.tmp 72)),qm 16 79,qm 15 80]) (.seq (.seq (.reg [qm 81 15,qq 82 (.bin .neq (.tmp 81) (ki 0))]) (.cond (.tmp 82) (.seq (.reg [qm 83 15,qq 4 (.mv (.const (S []))),qm 5 83]) .ret) .skip)) (.seq (.reg [qm 84 16,qm 85 0,qq 86 (.nck (.tmp 85)),qq 87 (.fad 0 (.tmp 86)),qq 88 (.ld (.some 3) (.tmp 87)),qq 89 (.call 71 [(.tmp 88)]),qq 90 (.call 70 [(.tmp 84),(.tmp 89)]),qq 91 (.call 15 [(.tmp 90)]),qm 4 91,qq 5 (.mv (ki 0))]) .ret)))))))))))))
theorem k48:conv Tryz.prog 92 (Tryz.f48.body.getD .skip)=c48:=by kernel_rfl
theorem in48 {a0 a1:Value} {w:World} {R:Value→World→Prop} (h:G Tryz.prog Tryz.f48 92 [.c c48] R (frL 0 [a0,a1]) w):Ret Tryz.prog 48 #[a0,a1] w R:=G.enter (args:=[a0,a1]) Tryz.func48 (c:=Tryz.f48.body.getD .skip) (by kernel_rfl) (by kernel_rfl) (by simp) k48 h
set_option maxHeartbeats 1000000 in
theorem get_spec1 (rest nm dg t:Str) (n:Nat) (hc:cutT 32 rest=(nm,dg,true)) (hl:rest.length≤1000000) (hn:nmM nm=true) (hu:nuM dg=some n) (hm:m nm=some t) (htl:t.length≤900000) (hd:byD d) (hr:rightD d=true) {R:Rs} (hR:parM d wideL t=R) (hi:n < R.rs.length) {x:List Str} (hx:(R.rs.map Prod.fst).getD n []=x) (hx0:mayR x=0) (hxl:x.length≤10000) (hxb:∀ f∈x,f.length≤1000000) (hv:ErrV w0) (hS:Sep w0 w (boxC g 55 [U d.dl,U d.q,I d.e,lv,.map (some r)] :: mapC r S m :: M)) :
    Ret Tryz.prog 48 #[(.pointer (some ⟨g,0,none⟩)),S rest] w fun res w'=>res=.tuple #[S (sqM (lineF d x.length false 0 x)),I 0]∧Sep w0 w' (boxC g 55 [U d.dl,U d.q,I d.e,lv,.map (some r)] :: mapC r S m :: M):=by
  refine in48 ?_
  have hcl:=cutT_len 32 rest
  have hcu:=fun w=>cut_spec rest 32 w (by omega)
  rw [hc] at hcu hcl
  dsimp only at hcu hcl
  have hnu:=fun w hv=>number_spec dg w (by omega) hv
  rw [hu] at hnu
  simp only [Option.getD_some,Option.isSome_some] at hnu
  have hsl:=spM_len d t
  rw [hR] at hsl
  have hp:=fun w=>inew_spec1 d t w (by omega) hr hR (rfl:spM d t=spM d t)
  generalize spM d t=SP at *
  have hlv:∀ {v:Value} {w:World},Rd w eS v x→Pu Tryz.prog 69 #[.agg #[U d.dl,U d.q,I d.e],v,.bool false] w (.tuple #[S (lineM d x false),I 0]):=fun {v w} h=>by
    have:=line_spec d hd false w h hxb hxl
    rwa [show lineV d x false=.tuple #[S (lineM d x false),I 0] by unfold lineV;rw [if_neg (by rw [hr];decide),if_pos hx0]] at this
  have hel:(endM d).length≤2:=by unfold endM;split<;>simp
  have hll:=lineF_len d x.length false 1000000 x 0 hxb
  have hll2:(lineF d x.length false 0 x).length≤20000030000:=Nat.le_trans hll (Nat.le_trans (Nat.mul_le_mul_right _ hxl) (by decide))
  have hq:=fun w=>tsuf_spec (s:=lineM d x false) (a:=lineF d x.length false 0 x) (e:=endM d) w (by unfold lineM;rw [List.length_append]) (by unfold lineM;rw [List.length_append];omega) (by unfold lineM;simp) (by unfold lineM;simp)
  (have fct:=(And.intro @hn @hm);repeat' (first|((with_reducible apply G.a);exact rfl)|refine G.reg fun K hK=>?_|(with_reducible (refine hK _ _ ?_);clear hK K)|(with_reducible (refine hK _ ?_);clear hK K;intro wd hxd;have hS:=Sep.xx hxd)|(have hk:=hK;clear hk;simp (disch:=first|exact dis|fail) only [push_cast,↓reduceIte,zq1,zq2,zq3,zq4,zq5,fct])|((first|refine brO_n ?_ ?_|refine brQ_n ?_ ?_)<;>intro hb hc<;>first|(with_reducible exact False.elim hc)|(exfalso;omega)|(simp only [hb];clear hb))|(refine zalc ?_;intro gb wb hS)|((with_reducible refine gSt ?_);refine zs2 ?_;intro wb hS)|(refine zcp 44 (hcu _) ?_;intro wb hS)|(refine zcp 66 (hnu _ (hv.ext (Sep.xt (by assumption)))) ?_;intro wb hS)|(refine zcp 65 (lnamed_spec _ _ (by omega)) ?_;intro wb hS)|(refine zlk ?_)|(refine zco 67 (hp _) ?_;rintro vb wb ⟨g2,v2,vs2,sv2,rfl,hvl,hS2⟩;have hS:=hS2.ap;simp only [apps] at hS)|(refine zn3 ?_)|(refine zn4 ?_)|(refine zco 68 (iget_spec1 (Sep.blk hS (by repeat constructor)) (Sep.rd hS (by repeat constructor)) (Sep.rd hS (by repeat constructor)) n (by omega) (by omega) (hx ▸ Sep.frzAt hS (by repeat constructor) (by rw [List.length_map];exact hi)) (by omega)) ?_;rintro vb wb ⟨rv,rfl,hS2⟩;have hS:=hS2.ap;simp only [apps] at hS)|(refine zcp 69 (hlv (Sep.rd hS (by repeat constructor))) ?_;intro wb hS)|(refine zcp 71 (dend_spec d hr _) ?_;intro wb hS)|(refine zcp 70 (hq _) ?_;intro wb hS)|(refine zcp 15 (spellL_spec _ _ (by omega)) ?_;intro wb hS)|refine G.drg mixed fun K hK=>?_|(refine G.cn ?_ ?_<;>intro hc<;>first|(with_reducible exact False.elim hc)|(exfalso;omega)|skip)))<;>(try clear fct)
  all_goals
    (first|refine G.r1 ?_|refine G.r2 ?_|refine G.r3 ?_|refine G.r0 ?_|refine G.d0 ?_);(try simp (disch:=first|exact dis|fail) only [push_cast,↓reduceIte,zq1,zq2,zq3,zq4,zq5,fct])
    (first|exact (Sep.sub hS (by repeat first|exact Sub.rfl'|exact Sub.n|(refine Sub.c (by repeat constructor) ?_)|refine Sub.skip ?_))|exact ⟨rfl,(Sep.sub hS (by repeat first|exact Sub.rfl'|exact Sub.n|(refine Sub.c (by repeat constructor) ?_)|refine Sub.skip ?_))⟩)
end
end Go.Proofs.YtllanbmpacgigaaGreatDoor
namespace Go.Proofs.YtllanbmpacgigaaGreatDoor
open Nat renaming reduceAdd→zq1,reduceLeDiff→zq2,reduceEqDiff→zq3,reduceLT→zq4
open Int renaming reduceToNat→zq5
set_option linter.unusedSimpArgs false
set_option linter.unusedVariables false
attribute [local irreducible] SemK UnitK StK AlcK BslK CallK CallV Instr.box Builtin.append_ Instr.makeSlice Instr.makeMap Instr.lookup Instr.mapUpdate Instr.sliceAt convert
open Go.RowKit
def exT:Str:=[120,44,121,10,122]
def exM:Nat→Str→Option Str
  | 0=>fun _=>none
  | _+1=>mput (fun _=>none) [97] exT
def exD:Dl:=⟨44,34,1⟩
theorem ex_parse:parM exD wideL exT=⟨[([[120],[121]],3),([[122]],5)],0,0⟩:=by kernel_rfl
theorem lit3 {w:World} {g:Nat} {t:TypeId} {a b c:Str} (h:Blk w g t [S a,S b,S c].toArray):Rd w eS (.slice (some ⟨g,0,none⟩) 3 3) [a,b,c]:=lit_rdS [a,b,c] h rfl (by simp)
def exL:List Str:=[[112,117,116,32,97,32,120,44,121,92,110,122],[99,104,101,99,107,32,97],[103,101,116,32,97,32,49]]
def exA:List Str:=[[111,107],[114,101,99,111,114,100,115,32,50],[122]]
def exP (g k:Nat) (L:List Chk):Prop:=∃ r,L=[boxC g 55 [U 44,U 34,I 1,.slice none 0 0,.map (some r)],mapC r S (exM k)]
theorem ex_line {w:World} (hv:ErrV w) (ht:Tab w) (g k:Nat) (L M:List Chk) (w':World) (hk:k < 3) (hP:exP g k L) (hS:Sep w w' (L++M)) :
    Ret Tryz.prog 11 #[(.pointer (some ⟨g,0,none⟩)),S (exL.getD k default)] w' fun v w2=>v=S (exA.getD k default)∧∃ L',exP g (k+1) L'∧Sep w w2 (L'++M):=by
  obtain ⟨r,rfl⟩:=hP
  have key:∀ (v1:Str) (m':Str→Option Str),m'=exM (k+1)→v1=exA.getD k default→Ret Tryz.prog 11 #[(.pointer (some ⟨g,0,none⟩)),S (exL.getD k default)] w' (fun v w2=>v=S (ansM v1 0)∧Sep w w2 (boxC g 55 [U 44,U 34,I 1,.slice none 0 0,.map (some r)] :: mapC r S m' :: M)) →
      Ret Tryz.prog 11 #[(.pointer (some ⟨g,0,none⟩)),S (exL.getD k default)] w' fun v w2=>v=S (exA.getD k default)∧∃ L',exP g (k+1) L'∧Sep w w2 (L'++M):=by
    intro v1 m' e1 e2 h
    refine Calls.mono h ?_
    rintro e w2 ⟨v,he,h1,h2⟩
    exact ⟨v,he,by rw [h1,←e2];rfl,_,⟨r,rfl⟩,by rw [←e1];exact h2⟩
  match k,hk with
  | 0, _ =>
    refine key [111,107] (exM 1) rfl rfl ?_
    exact Line_of _ ⟨by decide,by decide⟩ (.inl rfl) (fun w2 hS=>line_put _ [97,32,120,44,121,92,110,122] (by kernel_rfl) (by decide)
      (fun w3 hS=>put_spec1 _ false (by decide) (fun _ _ h=>by simp [exM] at h) (by kernel_rfl) hS) hS) hS
  | 1, _ =>
    refine key [114,101,99,111,114,100,115,32,50] (exM 2) rfl rfl ?_
    have hq:[114,101,99,111,114,100,115,32]++Lib.itoa (parM exD wideL exT).rs.length=[114,101,99,111,114,100,115,32,50]:=by rw [ex_parse];kernel_rfl
    exact Line_of _ ⟨by decide,by decide⟩ (.inl rfl) (fun w2 hS=>line_check _ [97] (by kernel_rfl) (by decide)
      (fun w3 hS=>(ncheck_spec (d:=exD) [97] exT (by decide) (by decide) rfl (by rw [ex_parse]) ht (by kernel_rfl) rfl hS).mono fun v w' h=>by rw [hq] at h;exact h) hS) hS
  | 2, _ =>
    refine key [122] (exM 3) rfl rfl ?_
    exact Line_of _ ⟨by decide,by decide⟩ (.inl rfl) (fun w2 hS=>line_get _ [97,32,49] (by kernel_rfl) (by decide)
      (fun w3 hS=>get_spec1 (d:=exD) [97,32,49] [97] [49] exT 1 (by kernel_rfl) (by decide) (by kernel_rfl) (by kernel_rfl) rfl (by decide) (by unfold byD exD;decide) rfl ex_parse (by decide) (x:=[[122]]) rfl (by kernel_rfl) (by decide) (by decide) hv hS) hS) hS
def c9:MC:=(.seq (.reg [qq 0 (.mv (kb false))]) (.seq (.reg [qq 2 (.bsl 9 [(S []),(S []),(S [])] 3 [⟨0,⟨1,(.const (S [112,117,116,32,97,32,120,44,121,92,110,122]))⟩⟩,⟨1,⟨1,(.const (S [99,104,101,99,107,32,97]))⟩⟩,⟨2,⟨1,(.const (S [103,101,116,32,97,32,49]))⟩⟩]),qq 3 (.call 13 [(.tmp 2)]),qm 1 3]) (.seq (.reg [qm 4 1,qq 5 (.bsl 9 [(S []),(S []),(S [])] 3 [⟨0,⟨1,(.const (S [111,107]))⟩⟩,⟨1,⟨1,(.const (S [114,101,99,111,114,100,115,32,50]))⟩⟩,⟨2,⟨1,(.const (S [122]))⟩⟩]),qq 6 (.call 12 [(.tmp 4),(.tmp 5)]),qm 0 6]) .ret)))
theorem k9:conv Tryz.prog 7 (Tryz.f9.body.getD .skip)=c9:=by kernel_rfl
theorem in9 {w:World} {R:Value→World→Prop} (h:G Tryz.prog Tryz.f9 7 [.c c9] R (frL 0 []) w):Ret Tryz.prog 9 #[] w R:=G.enter (args:=[]) Tryz.func9 (c:=Tryz.f9.body.getD .skip) (by kernel_rfl) (by kernel_rfl) (by simp) k9 h
theorem awake30_spec (w:World) (hv:ErrV w) (ht:Tab w):Pu Tryz.prog 9 #[] w (.bool true):=by
  refine in9 ?_
  have hS:=Sep.start w
  repeat' (first|((with_reducible apply G.a);exact rfl)|refine G.reg fun K hK=>?_|(with_reducible (refine hK _ _ ?_);clear hK K)|(have hk:=hK;clear hk;simp (disch:=first|exact dis|fail) only [push_cast,↓reduceIte,zq1,zq2,zq3,zq4,zq5,fct])|(refine zbsl ?_;intro gb wb hS)|(refine zco 13 (play_spec (l:=exL) (aa:=exA) (lit3 (Sep.blk (by assumption) (by repeat constructor))) rfl (by decide) exP (fun g r=>⟨r,rfl⟩) (fun g k L M w' hk=>ex_line (hv.ext (Sep.xt (by assumption))) (ht.ext (Sep.xt (by assumption))) g k L M w' hk)) ?_;rintro vb wb hS2;have hS:=hS2.ap;simp only [apps] at hS)|(refine zcp 12 (same05_spec (Sep.rd hS (by repeat constructor)) (lit3 (Sep.blk hS (by repeat constructor)))) ?_;intro wb hS))
  all_goals
    (first|refine G.r1 ?_|refine G.r2 ?_|refine G.r3 ?_|refine G.r0 ?_|refine G.d0 ?_);(try simp (disch:=first|exact dis|fail) only [push_cast,↓reduceIte,zq1,zq2,zq3,zq4,zq5,fct])
    first|exact Sep.xt (by assumption)|exact ⟨rfl,Sep.xt (by assumption)⟩
end Go.Proofs.YtllanbmpacgigaaGreatDoor
namespace Go.Proofs.YtllanbmpacgigaaGreatDoor
open Nat renaming reduceAdd→zq1,reduceLeDiff→zq2,reduceEqDiff→zq3,reduceLT→zq4
open Int renaming reduceToNat→zq5
set_option linter.unusedSimpArgs false
set_option linter.unusedVariables false
attribute [local irreducible] SemK UnitK StK AlcK BslK CallK CallV Instr.box Builtin.append_ Instr.makeSlice Instr.makeMap Instr.lookup Instr.mapUpdate Instr.sliceAt convert
open Go.RowKit
def c5l1:MC:=(.seq (.seq (.reg [qm 32 10,qm 33 3,qq 34 (.lenS (.tmp 33)),qq 35 (.bin .lss (.tmp 32) (.tmp 34))]) (.cond (.tmp 35) .skip (.exit 0))) (.seq (.blk 1 (.seq (.reg [qm 38 3,qm 39 10,qq 40 (.idxS (.tmp 38) (.tmp 39)),qq 41 (.bin .eql (.tmp 40) (.const (.int .u8 10))),qm 42 41,qmf 42 43 3,qmf 42 44 10,qf 42 45 (.idxS (.tmp 43) (.tmp 44)),qf 42 46 (.bin .eql (.tmp 45) (.const (.int .u8 13))),qq 47 (.pick (.tmp 42) (kb true) (.tmp 46))]) (.cond (.tmp 47) (.seq (.reg [qq 2 (.mv (kb false))]) .ret) .skip))) (.reg [qm 36 10,qq 37 (.bin .add (.tmp 36) (ki 1)),qm 10 37])))
def c5:MC:=(.seq (.reg [qq 2 (.mv (kb false))]) (.seq (.seq (.reg [qm 11 0,qq 12 (.lenS (.tmp 11)),qq 13 (.bin .gtr (.tmp 12) (ki 300))]) (.cond (.tmp 13) (.seq (.reg [qq 14 (.call 9 []),qm 2 14]) .ret) .skip)) (.seq (.reg [qm 15 0,qq 16 (.call 15 [(.tmp 15)]),qm 3 16]) (.seq (.reg [qm 18 3,qq 19 (.call 16 [(.tmp 18)]),qm 17 19,qq 20 (.ext 0 (.tmp 17)),qq 21 (.ext 1 (.tmp 17)),qm 4 20,qm 5 21]) (.seq (.reg [qm 23 0,qq 24 (.call 16 [(.tmp 23)]),qm 22 24,qq 25 (.ext 0 (.tmp 22)),qq 26 (.ext 1 (.tmp 22)),qm 6 25,qm 7 26]) (.seq (.reg [qm 28 0,qq 29 (.call 17 [(.tmp 28)]),qm 27 29,qq 30 (.ext 0 (.tmp 27)),qq 31 (.ext 1 (.tmp 27)),qm 8 30,qm 9 31]) (.seq (.seq (.reg [qq 10 (.mv (ki 0))]) (.blk 0 (.loop c5l1))) (.seq (.reg [qm 48 3,qm 49 0,qq 50 (.call 18 [(.tmp 49)]),qq 51 (.bin .eql (.tmp 48) (.tmp 50)),qm 52 51,qmt 52 53 4,qmt 52 54 0,qt 52 55 (.bin .eql (.tmp 53) (.tmp 54)),qq 56 (.pick (.tmp 52) (.tmp 55) (kb false)),qm 57 56,qmt 57 58 5,qq 59 (.pick (.tmp 57) (.tmp 58) (kb false)),qm 60 59,qmt 60 61 6,qmt 60 62 8,qt 60 63 (.bin .eql (.tmp 61) (.tmp 62)),qq 64 (.pick (.tmp 60) (.tmp 63) (kb false)),qm 65 64,qmt 65 66 7,qmt 65 67 9,qt 65 68 (.eqb false (.tmp 66) (.tmp 67)),qq 69 (.pick (.tmp 65) (.tmp 68) (kb false)),qm 70 69,qt 70 71 (.call 9 []),qq 72 (.pick (.tmp 70) (.tmp 71) (kb false)),qm 2 72]) .ret))))))))
theorem k5:conv Tryz.prog 73 (Tryz.f5.body.getD .skip)=c5:=by kernel_rfl
theorem in5 {a0:Value} {w:World} {R:Value→World→Prop} (h:G Tryz.prog Tryz.f5 73 [.c c5] R (frL 0 [a0]) w):Ret Tryz.prog 5 #[a0] w R:=G.enter (args:=[a0]) Tryz.func5 (c:=Tryz.f5.body.getD .skip) (by kernel_rfl) (by kernel_rfl) (by simp) k5 h
theorem law_spelt (s:Str) (w:World) (hs:s.length≤9223372036854775807) (hv:ErrV w) (ht:Tab w):Pu Tryz.prog 5 #[S s] w (.bool true):=by
  refine in5 ?_
  have hS:=Sep.start w
  by_cases hl:s.length≤300
  · have hle:=sqM_len s
    have hu1:∀ w,Pu Tryz.prog 16 #[S (sqM s)] w (.tuple #[S s,.bool true]):=fun w=>by
      have:=unspellL_spec (sqM s) w (by omega)
      rwa [unL_sp] at this
    have hu2:=fun w=>unspellL_spec s w (by omega)
    have hu3:=fun w=>runspell_spec s w (by omega)
    have hsp:=fun w=>spellL_spec s w (by omega)
    have hsr:=fun w=>rspell_spec s w (by omega)
    have hln:=sqM_line s
    generalize (unL s).getD []=u at *
    generalize (unL s).isSome=i at *
    generalize sqM s=t at *
    repeat' (first|((with_reducible apply G.a);exact rfl)|refine G.reg fun K hK=>?_|(with_reducible (refine hK _ _ ?_);clear hK K)|(have hk:=hK;clear hk;simp (disch:=first|exact dis|fail) only [push_cast,↓reduceIte,zq1,zq2,zq3,zq4,zq5,fct])|(refine brO_n ?_ ?_<;>intro hb hc<;>first|(with_reducible exact False.elim hc)|(exfalso;omega)|(simp only [hb];clear hb))|(refine zcp 15 (hsp _) ?_;intro wb hS)|((with_reducible (show CallK _ 16 [S t] _ _ _ _));refine zcp 16 (hu1 _) ?_;intro wb hS)|((with_reducible (show CallK _ 16 [S s] _ _ _ _));refine zcp 16 (hu2 _) ?_;intro wb hS)|(refine zcp 17 (hu3 _) ?_;intro wb hS)|(refine G.cn ?_ ?_<;>intro hc<;>first|(with_reducible exact False.elim hc)|(exfalso;omega)|skip))
    all_goals
      refine G.loop (fun r w'=>∃ k:Nat,k≤t.length∧r 0=S s∧r 3=S t∧r 4=S s∧r 5=.bool true∧r 6=S u∧r 7=.bool i∧r 8=S u∧r 9=.bool i∧r 10=I k∧Sep w w' []) (fun r _=>t.length - toN (r 10)) ?_ ?_
    · refine ⟨0,?_⟩
      ((repeat' apply And.intro)<;>first|exact dj|(simp only [push_cast,↓reduceIte,zq1,zq2,zq3,zq4,zq5]<;>omega)|skip)
    · clear hS
      rintro x wl ⟨k,hk,q0,q3,q4,q5,q6,q7,q8,q9,q10,hS⟩ ih
      by_cases hlt:(k:Int) < t.length
      · have hb:=hln (t.getD k 0) (by rw [List.getD_eq_getElem?_getD];simp [show k < t.length by omega])
        have n10:¬ ((t.getD k 0).toNat:Int)=10:=fun h=>hb (.inl (u8_of 10 h))
        have n13:¬ ((t.getD k 0).toNat:Int)=13:=fun h=>hb (.inr (u8_of 13 h))
        (have fct:=(And.intro @q0 (And.intro @q3 (And.intro @q4 (And.intro @q5 (And.intro @q6 (And.intro @q7 (And.intro @q8 (And.intro @q9 @q10))))))));repeat' (first|((with_reducible apply G.a);exact rfl)|refine G.reg fun K hK=>?_|(with_reducible (refine hK _ _ ?_);clear hK K)|(have hk:=hK;clear hk;simp (disch:=first|exact dis|fail) only [push_cast,↓reduceIte,zq1,zq2,zq3,zq4,zq5,fct])|(refine brO_n ?_ ?_<;>intro hb hc<;>first|(with_reducible exact False.elim hc)|(exfalso;omega)|(simp only [hb];clear hb))|(refine G.cn ?_ ?_<;>intro hc<;>first|(with_reducible exact False.elim hc)|(exfalso;omega)|skip)))<;>(try clear fct)
        all_goals
          (refine ih _ _ ⟨k+1,?_⟩ ?_;rotate_left;(focus ((simp only [push_cast,↓reduceIte,zq1,zq2,zq3,zq4,zq5,toN_i,q0,q3,q4,q5,q6,q7,q8,q9,q10]<;>omega)));((repeat' apply And.intro)<;>first|exact dj|(simp only [push_cast,↓reduceIte,zq1,zq2,zq3,zq4,zq5,q0,q3,q4,q5,q6,q7,q8,q9,q10]<;>omega)|skip))
      · (have fct:=(And.intro @q0 (And.intro @q3 (And.intro @q4 (And.intro @q5 (And.intro @q6 (And.intro @q7 (And.intro @q8 (And.intro @q9 @q10))))))));repeat' (first|((with_reducible apply G.a);exact rfl)|refine G.reg fun K hK=>?_|(with_reducible (refine hK _ _ ?_);clear hK K)|(have hk:=hK;clear hk;simp (disch:=first|exact dis|fail) only [push_cast,↓reduceIte,zq1,zq2,zq3,zq4,zq5,fct])|(refine brO_n ?_ ?_<;>intro hb hc<;>first|(with_reducible exact False.elim hc)|(exfalso;omega)|(simp only [hb];clear hb))|(refine zcp 18 (hsr _) ?_;intro wb hS)|(refine zcp 9 (awake30_spec _ (hv.ext (Sep.xt (by assumption))) (ht.ext (Sep.xt (by assumption)))) ?_;intro wb hS)|(refine G.cn ?_ ?_<;>intro hc<;>first|(with_reducible exact False.elim hc)|(exfalso;omega)|skip)))<;>(try clear fct)
        all_goals
          (have fct:=(And.intro @q0 (And.intro @q3 (And.intro @q4 (And.intro @q5 (And.intro @q6 (And.intro @q7 (And.intro @q8 (And.intro @q9 @q10))))))));(first|refine G.r1 ?_|refine G.r2 ?_|refine G.r3 ?_|refine G.r0 ?_|refine G.d0 ?_);(try simp (disch:=first|exact dis|fail) only [push_cast,↓reduceIte,zq1,zq2,zq3,zq4,zq5,fct]);(try clear fct))
          (first|exact Sep.xt (by assumption)|exact ⟨rfl,Sep.xt (by assumption)⟩)
  · repeat' (first|((with_reducible apply G.a);exact rfl)|refine G.reg fun K hK=>?_|(with_reducible (refine hK _ _ ?_);clear hK K)|(have hk:=hK;clear hk;simp (disch:=first|exact dis|fail) only [push_cast,↓reduceIte,zq1,zq2,zq3,zq4,zq5,fct])|(refine brO_n ?_ ?_<;>intro hb hc<;>first|(with_reducible exact False.elim hc)|(exfalso;omega)|(simp only [hb];clear hb))|(refine zcp 9 (awake30_spec _ (hv.ext (Sep.xt (by assumption))) (ht.ext (Sep.xt (by assumption)))) ?_;intro wb hS)|(refine G.cn ?_ ?_<;>intro hc<;>first|(with_reducible exact False.elim hc)|(exfalso;omega)|skip))
    all_goals
      (first|refine G.r1 ?_|refine G.r2 ?_|refine G.r3 ?_|refine G.r0 ?_|refine G.d0 ?_);(try simp (disch:=first|exact dis|fail) only [push_cast,↓reduceIte,zq1,zq2,zq3,zq4,zq5,fct])
      (first|exact Sep.xt (by assumption)|exact ⟨rfl,Sep.xt (by assumption)⟩)
end Go.Proofs.YtllanbmpacgigaaGreatDoor
