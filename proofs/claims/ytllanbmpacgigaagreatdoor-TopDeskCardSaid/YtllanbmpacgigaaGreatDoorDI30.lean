/- Texts of the proof, joined. -/
import Derived.Test.YtllanbmpacgigaaGreatDoorDG30
import Derived.Test.YtllanbmpacgigaaGreatDoorDJ27
namespace Go.Proofs.YtllanbmpacgigaaGreatDoor
open Nat renaming reduceAdd→zq1,reduceLeDiff→zq2,reduceEqDiff→zq3,reduceLT→zq4
open Int renaming reduceToNat→zq5
set_option linter.unusedSimpArgs false
set_option linter.unusedVariables false
attribute [local irreducible] SemK UnitK StK AlcK BslK CallK CallV Instr.box Builtin.append_ Instr.makeSlice Instr.makeMap Instr.lookup Instr.mapUpdate Instr.sliceAt convert
open Go.RowKit
section
variable {g r:Nat} {d:Dl} {lv:Value} {m:Str→Option Str} {M:List Chk} {w w0:World}
def c48:MC:=(.seq (.reg [qq 4 (.mv (.const (S []))),qq 5 (.mv (ki 0))]) (.seq (.reg [qm 18 1,qq 19 (.call 44 [(.tmp 18),(.const (S [32]))]),qm 17 19,qq 20 (.ext 0 (.tmp 17)),qq 21 (.ext 1 (.tmp 17)),qq 22 (.ext 2 (.tmp 17)),qm 6 20,qm 7 21,qm 8 22]) (.seq (.reg [qm 24 7,qq 25 (.call 66 [(.tmp 24)]),qm 23 25,qq 26 (.ext 0 (.tmp 23)),qq 27 (.ext 1 (.tmp 23)),qm 9 26,qm 10 27]) (.seq (.seq (.reg [qm 28 8,qq 29 (.un .not (.tmp 28)),qm 30 29,qmf 30 31 6,qf 30 32 (.call 65 [(.tmp 31)]),qf 30 33 (.un .not (.tmp 32)),qq 34 (.pick (.tmp 30) (kb true) (.tmp 33)),qm 35 34,qmf 35 36 10,qf 35 37 (.un .not (.tmp 36)),qq 38 (.pick (.tmp 35) (kb true) (.tmp 37))]) (.cond (.tmp 38) (.seq (.reg [qq 4 (.mv (.const (S []))),qq 5 (.mv (ki 23))]) .ret) .skip)) (.seq (.reg [qm 40 0,qq 41 (.nck (.tmp 40)),qq 42 (.fad 4 (.tmp 41)),qq 43 (.ld none (.tmp 42)),qm 44 6,qq 45 (.raw (.lookup 52 (.tmp 43) (.tmp 44) true) 34),qm 39 45,qq 46 (.ext 0 (.tmp 39)),qq 47 (.ext 1 (.tmp 39)),qm 11 46,qm 10 47]) (.seq (.seq (.reg [qm 48 10,qq 49 (.un .not (.tmp 48))]) (.cond (.tmp 49) (.seq (.reg [qq 4 (.mv (.const (S []))),qq 5 (.mv (ki 25))]) .ret) .skip)) (.seq (.reg [qm 51 0,qq 52 (.nck (.tmp 51)),qq 53 (.fad 0 (.tmp 52)),qq 54 (.ld (.some 3) (.tmp 53)),qm 55 11,qq 56 (.call 67 [(.tmp 54),(.tmp 55)]),qm 50 56,qq 57 (.ext 0 (.tmp 50)),qq 58 (.ext 1 (.tmp 50)),qq 13 (.alc 77 [(.int .i64 0),(.int .i64 0)]),qm 12 57,qn (.st 2 (.tmp 13) (.tmp 58))]) (.seq (.seq (.reg [qm 59 12,qq 60 (.raw (.binOp .eql 101 (.tmp 59) (.const (.pointer none)) 101) 4)]) (.cond (.tmp 60) (.seq (.drg [qq 61 (.fad 0 (.tmp 13)),qq 62 (.ld none (.tmp 61)),qq 4 (.mv (.const (S []))),qm 5 62] none) .ret) .skip)) (.seq (.reg [qm 64 12,qm 65 9,qq 66 (.call 68 [(.tmp 64),(.tmp 65)]),qm 63 66,qq 67 (.ext 0 (.tmp 63)),qq 68 (.ext 1 (.tmp 63)),qm 14 67,qm 15 68]) (.seq (.seq (.reg [qm 69 15,qq 70 (.bin .neq (.tmp 69) (ki 0))]) (.cond (.tmp 70) (.seq (.reg [qm 71 15,qq 4 (.mv (.const (S []))),qm 5 71]) .ret) .skip)) (.seq (.reg [qm 73 0,qq 74 (.nck (.tmp 73)),qq 75 (.fad 0 (.tmp 74)),qq 76 (.ld (.some 3) (.tmp 75)),qm 77 14,qq 78 (.call 69 [(.tmp 76),(.tmp 77),(kb false)]),qm 72 78,qq 79 (.ext 0 (.tmp 72)),qq 80 (.ext 1 (.tmp 72)),qm 16 79,qm 15 80]) (.seq (.seq (.reg [qm 81 15,qq 82 (.bin .neq (.tmp 81) (ki 0))]) (.cond (.tmp 82) (.seq (.reg [qm 83 15,qq 4 (.mv (.const (S []))),qm 5 83]) .ret) .skip)) (.seq (.reg [qm 84 16,qm 85 0,qq 86 (.nck (.tmp 85)),qq 87 (.fad 0 (.tmp 86)),qq 88 (.ld (.some 3) (.tmp 87)),qq 89 (.call 71 [(.tmp 88)]),qq 90 (.call 70 [(.tmp 84),(.tmp 89)]),qq 91 (.call 15 [(.tmp 90)]),qm 4 91,qq 5 (.mv (ki 0))]) .ret)))))))))))))
theorem k48:conv Tryz.prog 92 (Tryz.f48.body.getD .skip)=c48:=by kernel_rfl
theorem in48 {a0 a1:Value} {w:World} {R:Value→World→Prop} (h:G Tryz.prog Tryz.f48 92 [.c c48] R (frL 0 [a0,a1]) w):Ret Tryz.prog 48 #[a0,a1] w R:=G.enter (args:=[a0,a1]) Tryz.func48 (c:=Tryz.f48.body.getD .skip) (by kernel_rfl) (by kernel_rfl) (by simp) k48 h
set_option maxHeartbeats 1000000 in
theorem get_spec1 (rest nm dg t:Str) (n:Nat) (hc:cutT 32 rest=(nm,dg,true)) (hl:rest.length≤1000000) (hn:nmM nm=true) (hu:nuM dg=some n) (hm:m nm=some t) (htl:t.length≤900000) (hd:byD d) (hr:rightD d=true) {R:Rs} (hR:parM d wideL t=R) (hi:n < R.rs.length) {x:List Str} (hx:(R.rs.map Prod.fst).getD n []=x) (hx0:mayR x=0) (hxl:x.length≤10000) (hxb:∀ f∈x,f.length≤1000000) (hv:ErrV w0) (hS:Sep w0 w (boxC g 55 [U d.dl,U d.q,I d.e,lv,.map (some r)] :: mapC r S m :: M)) :
    Ret Tryz.prog 48 #[(.pointer (some ⟨g,0,none⟩)),S rest] w fun res w'=>res=.tuple #[S (sqM (lineF d x.length false 0 x)),I 0]∧Sep w0 w' (boxC g 55 [U d.dl,U d.q,I d.e,lv,.map (some r)] :: mapC r S m :: M):=by
  refine in48 ?_
  have hcl:=cutT_len 32 rest
  have hcu:=fun w=>cut_spec rest 32 w (by omega)
  rw [hc] at hcu hcl
  dsimp only at hcu hcl
  have hnu:=fun w hv=>number_spec dg w (by omega) hv
  rw [hu] at hnu
  simp only [Option.getD_some,Option.isSome_some] at hnu
  have hsl:=spM_len d t
  rw [hR] at hsl
  have hp:=fun w=>inew_spec1 d t w (by omega) hr hR (rfl:spM d t=spM d t)
  generalize spM d t=SP at *
  have hlv:∀ {v:Value} {w:World},Rd w eS v x→Pu Tryz.prog 69 #[.agg #[U d.dl,U d.q,I d.e],v,.bool false] w (.tuple #[S (lineM d x false),I 0]):=fun {v w} h=>by
    have:=line_spec d hd false w h hxb hxl
    rwa [show lineV d x false=.tuple #[S (lineM d x false),I 0] by unfold lineV;rw [if_neg (by rw [hr];decide),if_pos hx0]] at this
  have hel:(endM d).length≤2:=by unfold endM;split<;>simp
  have hll:=lineF_len d x.length false 1000000 x 0 hxb
  have hll2:(lineF d x.length false 0 x).length≤20000030000:=Nat.le_trans hll (Nat.le_trans (Nat.mul_le_mul_right _ hxl) (by decide))
  have hq:=fun w=>tsuf_spec (s:=lineM d x false) (a:=lineF d x.length false 0 x) (e:=endM d) w (by unfold lineM;rw [List.length_append]) (by unfold lineM;rw [List.length_append];omega) (by unfold lineM;simp) (by unfold lineM;simp)
  (have fct:=(And.intro @hn @hm);repeat' (first|((with_reducible apply G.a);exact rfl)|refine G.reg fun K hK=>?_|(with_reducible (refine hK _ _ ?_);clear hK K)|(with_reducible (refine hK _ ?_);clear hK K;intro wd hxd;have hS:=Sep.xx hxd)|(have hk:=hK;clear hk;simp (disch:=first|exact dis|fail) only [push_cast,↓reduceIte,zq1,zq2,zq3,zq4,zq5,fct])|((first|refine brO_n ?_ ?_|refine brQ_n ?_ ?_)<;>intro hb hc<;>first|(with_reducible exact False.elim hc)|(exfalso;omega)|(simp only [hb];clear hb))|(refine zalc ?_;intro gb wb hS)|((with_reducible refine gSt ?_);refine zs2 ?_;intro wb hS)|(refine zcp 44 (hcu _) ?_;intro wb hS)|(refine zcp 66 (hnu _ (hv.ext (Sep.xt (by assumption)))) ?_;intro wb hS)|(refine zcp 65 (lnamed_spec _ _ (by omega)) ?_;intro wb hS)|(refine zlk ?_)|(refine zco 67 (hp _) ?_;rintro vb wb ⟨g2,v2,vs2,sv2,rfl,hvl,hS2⟩;have hS:=hS2.ap;simp only [apps] at hS)|(refine zn3 ?_)|(refine zn4 ?_)|(refine zco 68 (iget_spec1 (Sep.blk hS (by repeat constructor)) (Sep.rd hS (by repeat constructor)) (Sep.rd hS (by repeat constructor)) n (by omega) (by omega) (hx ▸ Sep.frzAt hS (by repeat constructor) (by rw [List.length_map];exact hi)) (by omega)) ?_;rintro vb wb ⟨rv,rfl,hS2⟩;have hS:=hS2.ap;simp only [apps] at hS)|(refine zcp 69 (hlv (Sep.rd hS (by repeat constructor))) ?_;intro wb hS)|(refine zcp 71 (dend_spec d hr _) ?_;intro wb hS)|(refine zcp 70 (hq _) ?_;intro wb hS)|(refine zcp 15 (spellL_spec _ _ (by omega)) ?_;intro wb hS)|refine G.drg mixed fun K hK=>?_|(refine G.cn ?_ ?_<;>intro hc<;>first|(with_reducible exact False.elim hc)|(exfalso;omega)|skip)))<;>(try clear fct)
  all_goals
    (first|refine G.r1 ?_|refine G.r2 ?_|refine G.r3 ?_|refine G.r0 ?_|refine G.d0 ?_);(try simp (disch:=first|exact dis|fail) only [push_cast,↓reduceIte,zq1,zq2,zq3,zq4,zq5,fct])
    (first|exact (Sep.sub hS (by repeat first|exact Sub.rfl'|exact Sub.n|(refine Sub.c (by repeat constructor) ?_)|refine Sub.skip ?_))|exact ⟨rfl,(Sep.sub hS (by repeat first|exact Sub.rfl'|exact Sub.n|(refine Sub.c (by repeat constructor) ?_)|refine Sub.skip ?_))⟩)
end
end Go.Proofs.YtllanbmpacgigaaGreatDoor
namespace Go.Proofs.YtllanbmpacgigaaGreatDoor
open Nat renaming reduceAdd→zq1,reduceLeDiff→zq2,reduceEqDiff→zq3,reduceLT→zq4
open Int renaming reduceToNat→zq5
set_option linter.unusedSimpArgs false
set_option linter.unusedVariables false
attribute [local irreducible] SemK UnitK StK AlcK BslK CallK CallV Instr.box Builtin.append_ Instr.makeSlice Instr.makeMap Instr.lookup Instr.mapUpdate Instr.sliceAt convert
open Go.RowKit
def exT:Str:=[120,44,121,10,122]
def exM:Nat→Str→Option Str
  | 0=>fun _=>none
  | _+1=>mput (fun _=>none) [97] exT
def exD:Dl:=⟨44,34,1⟩
theorem ex_parse:parM exD wideL exT=⟨[([[120],[121]],3),([[122]],5)],0,0⟩:=by kernel_rfl
theorem lit3 {w:World} {g:Nat} {t:TypeId} {a b c:Str} (h:Blk w g t [S a,S b,S c].toArray):Rd w eS (.slice (some ⟨g,0,none⟩) 3 3) [a,b,c]:=lit_rdS [a,b,c] h rfl (by simp)
def exL:List Str:=[[112,117,116,32,97,32,120,44,121,92,110,122],[99,104,101,99,107,32,97],[103,101,116,32,97,32,49]]
def exA:List Str:=[[111,107],[114,101,99,111,114,100,115,32,50],[122]]
def exP (g k:Nat) (L:List Chk):Prop:=∃ r,L=[boxC g 55 [U 44,U 34,I 1,.slice none 0 0,.map (some r)],mapC r S (exM k)]
theorem ex_line {w:World} (hv:ErrV w) (ht:Tab w) (g k:Nat) (L M:List Chk) (w':World) (hk:k < 3) (hP:exP g k L) (hS:Sep w w' (L++M)) :
    Ret Tryz.prog 11 #[(.pointer (some ⟨g,0,none⟩)),S (exL.getD k default)] w' fun v w2=>v=S (exA.getD k default)∧∃ L',exP g (k+1) L'∧Sep w w2 (L'++M):=by
  obtain ⟨r,rfl⟩:=hP
  have key:∀ (v1:Str) (m':Str→Option Str),m'=exM (k+1)→v1=exA.getD k default→Ret Tryz.prog 11 #[(.pointer (some ⟨g,0,none⟩)),S (exL.getD k default)] w' (fun v w2=>v=S (ansM v1 0)∧Sep w w2 (boxC g 55 [U 44,U 34,I 1,.slice none 0 0,.map (some r)] :: mapC r S m' :: M)) →
      Ret Tryz.prog 11 #[(.pointer (some ⟨g,0,none⟩)),S (exL.getD k default)] w' fun v w2=>v=S (exA.getD k default)∧∃ L',exP g (k+1) L'∧Sep w w2 (L'++M):=by
    intro v1 m' e1 e2 h
    refine Calls.mono h ?_
    rintro e w2 ⟨v,he,h1,h2⟩
    exact ⟨v,he,by rw [h1,←e2];rfl,_,⟨r,rfl⟩,by rw [←e1];exact h2⟩
  match k,hk with
  | 0, _ =>
    refine key [111,107] (exM 1) rfl rfl ?_
    exact Line_of _ ⟨by decide,by decide⟩ (.inl rfl) (fun w2 hS=>line_put _ [97,32,120,44,121,92,110,122] (by kernel_rfl) (by decide)
      (fun w3 hS=>put_spec1 _ false (by decide) (fun _ _ h=>by simp [exM] at h) (by kernel_rfl) hS) hS) hS
  | 1, _ =>
    refine key [114,101,99,111,114,100,115,32,50] (exM 2) rfl rfl ?_
    have hq:[114,101,99,111,114,100,115,32]++Lib.itoa (parM exD wideL exT).rs.length=[114,101,99,111,114,100,115,32,50]:=by rw [ex_parse];kernel_rfl
    exact Line_of _ ⟨by decide,by decide⟩ (.inl rfl) (fun w2 hS=>line_check _ [97] (by kernel_rfl) (by decide)
      (fun w3 hS=>(ncheck_spec (d:=exD) [97] exT (by decide) (by decide) rfl (by rw [ex_parse]) ht (by kernel_rfl) rfl hS).mono fun v w' h=>by rw [hq] at h;exact h) hS) hS
  | 2, _ =>
    refine key [122] (exM 3) rfl rfl ?_
    exact Line_of _ ⟨by decide,by decide⟩ (.inl rfl) (fun w2 hS=>line_get _ [97,32,49] (by kernel_rfl) (by decide)
      (fun w3 hS=>get_spec1 (d:=exD) [97,32,49] [97] [49] exT 1 (by kernel_rfl) (by decide) (by kernel_rfl) (by kernel_rfl) rfl (by decide) (by unfold byD exD;decide) rfl ex_parse (by decide) (x:=[[122]]) rfl (by kernel_rfl) (by decide) (by decide) hv hS) hS) hS
def c9:MC:=(.seq (.reg [qq 0 (.mv (kb false))]) (.seq (.reg [qq 2 (.bsl 9 [(S []),(S []),(S [])] 3 [⟨0,⟨1,(.const (S [112,117,116,32,97,32,120,44,121,92,110,122]))⟩⟩,⟨1,⟨1,(.const (S [99,104,101,99,107,32,97]))⟩⟩,⟨2,⟨1,(.const (S [103,101,116,32,97,32,49]))⟩⟩]),qq 3 (.call 13 [(.tmp 2)]),qm 1 3]) (.seq (.reg [qm 4 1,qq 5 (.bsl 9 [(S []),(S []),(S [])] 3 [⟨0,⟨1,(.const (S [111,107]))⟩⟩,⟨1,⟨1,(.const (S [114,101,99,111,114,100,115,32,50]))⟩⟩,⟨2,⟨1,(.const (S [122]))⟩⟩]),qq 6 (.call 12 [(.tmp 4),(.tmp 5)]),qm 0 6]) .ret)))
theorem k9:conv Tryz.prog 7 (Tryz.f9.body.getD .skip)=c9:=by kernel_rfl
theorem in9 {w:World} {R:Value→World→Prop} (h:G Tryz.prog Tryz.f9 7 [.c c9] R (frL 0 []) w):Ret Tryz.prog 9 #[] w R:=G.enter (args:=[]) Tryz.func9 (c:=Tryz.f9.body.getD .skip) (by kernel_rfl) (by kernel_rfl) (by simp) k9 h
theorem awake30_spec (w:World) (hv:ErrV w) (ht:Tab w):Pu Tryz.prog 9 #[] w (.bool true):=by
  refine in9 ?_
  have hS:=Sep.start w
  repeat' (first|((with_reducible apply G.a);exact rfl)|refine G.reg fun K hK=>?_|(with_reducible (refine hK _ _ ?_);clear hK K)|(have hk:=hK;clear hk;simp (disch:=first|exact dis|fail) only [push_cast,↓reduceIte,zq1,zq2,zq3,zq4,zq5,fct])|(refine zbsl ?_;intro gb wb hS)|(refine zco 13 (play_spec (l:=exL) (aa:=exA) (lit3 (Sep.blk (by assumption) (by repeat constructor))) rfl (by decide) exP (fun g r=>⟨r,rfl⟩) (fun g k L M w' hk=>ex_line (hv.ext (Sep.xt (by assumption))) (ht.ext (Sep.xt (by assumption))) g k L M w' hk)) ?_;rintro vb wb hS2;have hS:=hS2.ap;simp only [apps] at hS)|(refine zcp 12 (same05_spec (Sep.rd hS (by repeat constructor)) (lit3 (Sep.blk hS (by repeat constructor)))) ?_;intro wb hS))
  all_goals
    (first|refine G.r1 ?_|refine G.r2 ?_|refine G.r3 ?_|refine G.r0 ?_|refine G.d0 ?_);(try simp (disch:=first|exact dis|fail) only [push_cast,↓reduceIte,zq1,zq2,zq3,zq4,zq5,fct])
    first|exact Sep.xt (by assumption)|exact ⟨rfl,Sep.xt (by assumption)⟩
end Go.Proofs.YtllanbmpacgigaaGreatDoor
namespace Go.Proofs.YtllanbmpacgigaaGreatDoor
open Nat renaming reduceAdd→zq1,reduceLeDiff→zq2,reduceEqDiff→zq3,reduceLT→zq4
open Int renaming reduceToNat→zq5
set_option linter.unusedSimpArgs false
set_option linter.unusedVariables false
open Go.RowKit
section
variable {g r:Nat} {d:Dl} {lv:Value} {m:Str→Option Str} {M:List Chk} {w w0:World}
theorem nm_x:nmM [120]=true:=by kernel_rfl
theorem lnPut (a:Str) (ha:a.length≤100000) (hmb:∀ k t,m k=some t→t.length≤100000000000) (hS:Sep w0 w (boxC g 55 [U d.dl,U d.q,I d.e,lv,.map (some r)] :: mapC r S m :: M)):Ret Tryz.prog 11 #[(.pointer (some ⟨g,0,none⟩)),S ([112,117,116,32,120,32]++sqM a)] w fun v w'=>v=S [111,107]∧Sep w0 w' (boxC g 55 [U d.dl,U d.q,I d.e,lv,.map (some r)] :: mapC r S (mput m [120] a) :: M):=by
  have hle:=sqM_len a
  have h2:lputM m ([120,32]++sqM a) false=some (mput m [120] a):=by
    unfold lputM
    rw [show cutT 32 ([120,32]++sqM a)=([120],sqM a,true) by kernel_rfl,if_pos ⟨rfl,nm_x⟩,unL_sp]
    rfl
  exact Line_of _ ⟨by decide,by decide⟩ (.inl rfl) (fun w2 hS=>line_put _ ([120,32]++sqM a) (by kernel_rfl) (by simp only [List.length_append,List.length_cons,List.length_nil];omega)
    (fun w3 hS=>put_spec1 _ false (by simp only [List.length_append,List.length_cons,List.length_nil];omega) hmb h2 hS) hS) hS
theorem lnAdd (a t:Str) (hm:m [120]=some t) (ha:a.length≤100000) (hmb:∀ k t,m k=some t→t.length≤100000000000) (hS:Sep w0 w (boxC g 55 [U d.dl,U d.q,I d.e,lv,.map (some r)] :: mapC r S m :: M)):Ret Tryz.prog 11 #[(.pointer (some ⟨g,0,none⟩)),S ([97,100,100,32,120,32]++sqM a)] w fun v w'=>v=S [111,107]∧Sep w0 w' (boxC g 55 [U d.dl,U d.q,I d.e,lv,.map (some r)] :: mapC r S (mput m [120] (t++a)) :: M):=by
  have hle:=sqM_len a
  have h2:lputM m ([120,32]++sqM a) true=some (mput m [120] (t++a)):=by
    unfold lputM
    rw [show cutT 32 ([120,32]++sqM a)=([120],sqM a,true) by kernel_rfl,if_pos ⟨rfl,nm_x⟩,unL_sp]
    dsimp only
    rw [hm]
    rfl
  exact Line_of _ ⟨by decide,by decide⟩ (.inl rfl) (fun w2 hS=>line_add _ ([120,32]++sqM a) (by kernel_rfl) (by simp only [List.length_append,List.length_cons,List.length_nil];omega)
    (fun w3 hS=>put_spec1 _ true (by simp only [List.length_append,List.length_cons,List.length_nil];omega) hmb h2 hS) hS) hS
theorem lnShow (t:Str) (hm:m [120]=some t) (htl:t.length≤100000000000) (hS:Sep w0 w (boxC g 55 [U d.dl,U d.q,I d.e,lv,.map (some r)] :: mapC r S m :: M)):Ret Tryz.prog 11 #[(.pointer (some ⟨g,0,none⟩)),S [115,104,111,119,32,120]] w fun v w'=>v=S (sqM t)∧Sep w0 w' (boxC g 55 [U d.dl,U d.q,I d.e,lv,.map (some r)] :: mapC r S m :: M) :=
  Line_of _ ⟨by decide,by decide⟩ (.inl rfl) (fun w2 hS=>line_show _ [120] (by kernel_rfl) (by decide) (fun w3 hS=>nshow_spec [120] t (by decide) htl nm_x hm hS) hS) hS
theorem lnPlain1 (t:Str) (hm:m [120]=some t) (htl:t.length≤900000) (hd:byD d) (hr:rightD d=true) {R:Rs} (hR:parM d wideL t=R) (hmb:TabB 1000 1000 (R.rs.map Prod.fst)) (hn:R.rs.length≤1000) (hk:R.k=0) (hf:frN (R.rs.map Prod.fst)=R.rs.length) (hS:Sep w0 w (boxC g 55 [U d.dl,U d.q,I d.e,lv,.map (some r)] :: mapC r S m :: M)) :
    Ret Tryz.prog 11 #[(.pointer (some ⟨g,0,none⟩)),S [112,108,97,105,110,32,120]] w fun v w'=>v=S [111,107]∧Sep w0 w' (boxC g 55 [U d.dl,U d.q,I d.e,lv,.map (some r)] :: mapC r S (mput m [120] (txtF d true (R.rs.map Prod.fst))) :: M) :=
  Line_of _ ⟨by decide,by decide⟩ (.inl rfl) (fun w2 hS=>line_plain _ [120] (by kernel_rfl) (by decide) (fun w3 hS=>nplain_spec [120] t (by decide) _ _ _ (fun w4 hS=>dplain_spec1 [120] t htl hd hr hR hmb hn hk hf hS) nm_x hm hS) hS) hS
theorem lnPlain0 (t:Str) (hm:m [120]=some t) (htl:t.length≤900000) (hd:byD d) (hr:rightD d=true) {R:Rs} (hR:parM d wideL t=R) (hmb:TabB 1000 1000 (R.rs.map Prod.fst)) (hn:R.rs.length≤1000) (hf:R.k≠0∨frN (R.rs.map Prod.fst)≠R.rs.length) (hb:-9223372036854775808≤plE R∧plE R≤9223372036854775807) (hT:Tab w0) (hS:Sep w0 w (boxC g 55 [U d.dl,U d.q,I d.e,lv,.map (some r)] :: mapC r S m :: M)) :
    Ret Tryz.prog 11 #[(.pointer (some ⟨g,0,none⟩)),S [112,108,97,105,110,32,120]] w fun v w'=>v=S (ansM [] (plE R))∧Sep w0 w' (boxC g 55 [U d.dl,U d.q,I d.e,lv,.map (some r)] :: mapC r S m :: M) :=
  Line_of _ hb (.inr hT) (fun w2 hS=>line_plain _ [120] (by kernel_rfl) (by decide) (fun w3 hS=>nplain_spec [120] t (by decide) _ _ _ (fun w4 hS=>dplain_spec0 [120] t htl hd hr hR hmb hn hf hS) nm_x hm hS) hS) hS
theorem lnCheck (t:Str) (hm:m [120]=some t) (htl:t.length≤900000) (hr:rightD d=true) (hk:(parM d wideL t).k=0) (hT:Tab w0) (hS:Sep w0 w (boxC g 55 [U d.dl,U d.q,I d.e,lv,.map (some r)] :: mapC r S m :: M)):Ret Tryz.prog 11 #[(.pointer (some ⟨g,0,none⟩)),S [99,104,101,99,107,32,120]] w fun v w'=>v=S ([114,101,99,111,114,100,115,32]++Lib.itoa (parM d wideL t).rs.length)∧Sep w0 w' (boxC g 55 [U d.dl,U d.q,I d.e,lv,.map (some r)] :: mapC r S m :: M) :=
  Line_of _ ⟨by decide,by decide⟩ (.inl rfl) (fun w2 hS=>line_check _ [120] (by kernel_rfl) (by decide) (fun w3 hS=>ncheck_spec [120] t (by decide) htl hr hk hT nm_x hm hS) hS) hS
theorem lnGet (t:Str) (n:Nat) (hm:m [120]=some t) (htl:t.length≤900000) (hd:byD d) (hr:rightD d=true) {R:Rs} (hR:parM d wideL t=R) (hi:n < R.rs.length) {x:List Str} (hx:(R.rs.map Prod.fst).getD n []=x) (hx0:mayR x=0) (hxl:x.length≤10000) (hxb:∀ f∈x,f.length≤1000000) (hv:ErrV w0) (hn:n≤1000000) (hS:Sep w0 w (boxC g 55 [U d.dl,U d.q,I d.e,lv,.map (some r)] :: mapC r S m :: M)) :
    Ret Tryz.prog 11 #[(.pointer (some ⟨g,0,none⟩)),S ([103,101,116,32,120,32]++Lib.itoa n)] w fun v w'=>v=S (sqM (lineF d x.length false 0 x))∧Sep w0 w' (boxC g 55 [U d.dl,U d.q,I d.e,lv,.map (some r)] :: mapC r S m :: M):=by
  have hln:=itoa_ln n (by omega) (by omega)
  have hu:nuM (Lib.itoa n)=some n:=by
    unfold nuM
    rw [par_itoa (by omega) (by omega),if_pos ⟨rfl,by simp⟩]
    simp
  exact Line_of _ ⟨by decide,by decide⟩ (.inl rfl) (fun w2 hS=>line_get _ ([120,32]++Lib.itoa n) (by kernel_rfl) (by simp only [List.length_append,List.length_cons,List.length_nil];omega)
    (fun w3 hS=>get_spec1 _ [120] (Lib.itoa n) t n (by kernel_rfl) (by simp only [List.length_append,List.length_cons,List.length_nil];omega) nm_x hu hm htl hd hr hR hi hx hx0 hxl hxb hv hS) hS) hS
end
end Go.Proofs.YtllanbmpacgigaaGreatDoor
namespace Go.Proofs.YtllanbmpacgigaaGreatDoor
open Nat renaming reduceAdd→zq1,reduceLeDiff→zq2,reduceEqDiff→zq3,reduceLT→zq4
open Int renaming reduceToNat→zq5
set_option linter.unusedSimpArgs false
set_option linter.unusedVariables false
attribute [local irreducible] SemK UnitK StK AlcK BslK CallK CallV Instr.box Builtin.append_ Instr.makeSlice Instr.makeMap Instr.lookup Instr.mapUpdate Instr.sliceAt convert
open Go.RowKit
theorem byD_ex:byD exD:=by unfold byD exD;decide
theorem ans_no (e:Int) (h:e≠0):(ansM [] e == [111,107])=false:=by
  unfold ansM
  rw [if_neg h,beq_eq_false_iff_ne]
  intro h
  simp at h
def c6:MC:=(.seq (.reg [qq 4 (.mv (kb false))]) (.seq (.seq (.reg [qm 7 0,qq 8 (.lenS (.tmp 7)),qq 9 (.bin .gtr (.tmp 8) (ki 200)),qm 10 9,qmf 10 11 1,qf 10 12 (.lenS (.tmp 11)),qf 10 13 (.bin .gtr (.tmp 12) (ki 200)),qq 14 (.pick (.tmp 10) (kb true) (.tmp 13))]) (.cond (.tmp 14) (.seq (.reg [qq 15 (.call 9 []),qm 4 15]) .ret) .skip)) (.seq (.reg [qq 16 (.call 10 []),qm 5 16]) (.seq (.seq (.reg [qm 17 5,qq 18 (.raw (.binOp .eql 25 (.tmp 17) (.const (.pointer none)) 25) 4),qm 19 18,qmf 19 20 5,qmf 19 21 0,qf 19 22 (.call 15 [(.tmp 21)]),qf 19 23 (.bin .add (.const (S [112,117,116,32,120,32])) (.tmp 22)),qf 19 24 (.call 11 [(.tmp 20),(.tmp 23)]),qf 19 25 (.bin .neq (.tmp 24) (.const (S [111,107]))),qq 26 (.pick (.tmp 19) (kb true) (.tmp 25)),qm 27 26,qmf 27 28 5,qf 27 29 (.call 11 [(.tmp 28),(.const (S [115,104,111,119,32,120]))]),qmf 27 30 0,qf 27 31 (.call 15 [(.tmp 30)]),qf 27 32 (.bin .neq (.tmp 29) (.tmp 31)),qq 33 (.pick (.tmp 27) (kb true) (.tmp 32)),qm 34 33,qmf 34 35 5,qmf 34 36 1,qf 34 37 (.call 15 [(.tmp 36)]),qf 34 38 (.bin .add (.const (S [97,100,100,32,120,32])) (.tmp 37)),qf 34 39 (.call 11 [(.tmp 35),(.tmp 38)]),qf 34 40 (.bin .neq (.tmp 39) (.const (S [111,107]))),qq 41 (.pick (.tmp 34) (kb true) (.tmp 40)),qm 42 41,qmf 42 43 5,qf 42 44 (.call 11 [(.tmp 43),(.const (S [115,104,111,119,32,120]))]),qmf 42 45 0,qmf 42 46 1,qf 42 47 (.bin .add (.tmp 45) (.tmp 46)),qf 42 48 (.call 15 [(.tmp 47)]),qf 42 49 (.bin .neq (.tmp 44) (.tmp 48)),qq 50 (.pick (.tmp 42) (kb true) (.tmp 49))]) (.cond (.tmp 50) (.seq (.reg [qq 4 (.mv (kb false))]) .ret) .skip)) (.seq (.seq (.reg [qm 51 5,qq 52 (.call 11 [(.tmp 51),(.const (S [112,108,97,105,110,32,120]))]),qq 53 (.bin .neq (.tmp 52) (.const (S [111,107])))]) (.cond (.tmp 53) (.seq (.reg [qm 54 5,qq 55 (.call 11 [(.tmp 54),(.const (S [115,104,111,119,32,120]))]),qm 56 0,qm 57 1,qq 58 (.bin .add (.tmp 56) (.tmp 57)),qq 59 (.call 15 [(.tmp 58)]),qq 60 (.bin .eql (.tmp 55) (.tmp 59)),qm 61 60,qt 61 62 (.call 9 []),qq 63 (.pick (.tmp 61) (.tmp 62) (kb false)),qm 4 63]) .ret) .skip)) (.seq (.reg [qm 64 5,qq 65 (.call 11 [(.tmp 64),(.const (S [115,104,111,119,32,120]))]),qm 6 65]) (.seq (.reg [qm 66 5,qq 67 (.call 11 [(.tmp 66),(.const (S [112,108,97,105,110,32,120]))]),qq 68 (.bin .eql (.tmp 67) (.const (S [111,107]))),qm 69 68,qmt 69 70 5,qt 69 71 (.call 11 [(.tmp 70),(.const (S [115,104,111,119,32,120]))]),qmt 69 72 6,qt 69 73 (.bin .eql (.tmp 71) (.tmp 72)),qq 74 (.pick (.tmp 69) (.tmp 73) (kb false)),qm 75 74,qt 75 76 (.call 9 []),qq 77 (.pick (.tmp 75) (.tmp 76) (kb false)),qm 4 77]) .ret)))))))
theorem k6:conv Tryz.prog 78 (Tryz.f6.body.getD .skip)=c6:=by kernel_rfl
theorem in6 {a0 a1:Value} {w:World} {R:Value→World→Prop} (h:G Tryz.prog Tryz.f6 78 [.c c6] R (frL 0 [a0,a1]) w):Ret Tryz.prog 6 #[a0,a1] w R:=G.enter (args:=[a0,a1]) Tryz.func6 (c:=Tryz.f6.body.getD .skip) (by kernel_rfl) (by kernel_rfl) (by simp) k6 h
set_option maxHeartbeats 1000000 in
theorem law_put (a b:Str) (w:World) (ha:a.length≤9223372036854775807) (hb:b.length≤9223372036854775807) (hv:ErrV w) (ht:Tab w):Pu Tryz.prog 6 #[S a,S b] w (.bool true):=by
  refine in6 ?_
  have hS:=Sep.start w
  by_cases h1:a.length≤200
  · by_cases h2:b.length≤200
    · have la:=sqM_len a
      have lb:=sqM_len b
      have hsa:=fun w=>spellL_spec a w (by omega)
      have hsb:=fun w=>spellL_spec b w (by omega)
      have hsc:=fun w=>spellL_spec (a++b) w (by rw [List.length_append];omega)
      obtain ⟨m0,hm0⟩:∃ m0:Str→Option Str,m0=fun _=>none:=⟨_,rfl⟩
      obtain ⟨m1,hm1⟩:∃ m1,m1=mput m0 [120] a:=⟨_,rfl⟩
      obtain ⟨m2,hm2⟩:∃ m2,m2=mput m1 [120] (a++b):=⟨_,rfl⟩
      have e1:m1 [120]=some a:=by rw [hm1];simp [mput]
      have e2:m2 [120]=some (a++b):=by rw [hm2];simp [mput]
      have b0:∀ k t,m0 k=some t→t.length≤100000000000:=fun k t h=>by rw [hm0] at h;simp at h
      have b1:∀ k t,m1 k=some t→t.length≤100000000000:=fun k t h=>by
        rw [hm1] at h;unfold mput at h
        split at h
        · injection h with h;subst h;omega
        · exact b0 k t h
      have H1:∀ {g r:Nat} {lv:Value} {w1:World},Sep w w1 (boxC g 55 [U exD.dl,U exD.q,I exD.e,lv,.map (some r)] :: mapC r S m0 :: [])→Ret Tryz.prog 11 #[(.pointer (some ⟨g,0,none⟩)),S ([112,117,116,32,120,32]++sqM a)] w1 fun v w'=>v=S [111,107]∧Sep w w' (boxC g 55 [U exD.dl,U exD.q,I exD.e,lv,.map (some r)] :: mapC r S m1 :: []):=fun hS=>by rw [hm1];exact lnPut a (by omega) b0 hS
      have H2:∀ {g r:Nat} {lv:Value} {w1:World},Sep w w1 (boxC g 55 [U exD.dl,U exD.q,I exD.e,lv,.map (some r)] :: mapC r S m1 :: [])→Ret Tryz.prog 11 #[(.pointer (some ⟨g,0,none⟩)),S [115,104,111,119,32,120]] w1 fun v w'=>v=S (sqM a)∧Sep w w' (boxC g 55 [U exD.dl,U exD.q,I exD.e,lv,.map (some r)] :: mapC r S m1 :: []):=fun hS=>lnShow a e1 (by omega) hS
      have H3:∀ {g r:Nat} {lv:Value} {w1:World},Sep w w1 (boxC g 55 [U exD.dl,U exD.q,I exD.e,lv,.map (some r)] :: mapC r S m1 :: [])→Ret Tryz.prog 11 #[(.pointer (some ⟨g,0,none⟩)),S ([97,100,100,32,120,32]++sqM b)] w1 fun v w'=>v=S [111,107]∧Sep w w' (boxC g 55 [U exD.dl,U exD.q,I exD.e,lv,.map (some r)] :: mapC r S m2 :: []):=fun hS=>by rw [hm2];exact lnAdd b a e1 (by omega) b1 hS
      have H4:∀ {g r:Nat} {lv:Value} {w1:World},Sep w w1 (boxC g 55 [U exD.dl,U exD.q,I exD.e,lv,.map (some r)] :: mapC r S m2 :: [])→Ret Tryz.prog 11 #[(.pointer (some ⟨g,0,none⟩)),S [115,104,111,119,32,120]] w1 fun v w'=>v=S (sqM (a++b))∧Sep w w' (boxC g 55 [U exD.dl,U exD.q,I exD.e,lv,.map (some r)] :: mapC r S m2 :: []):=fun hS=>lnShow (a++b) e2 (by rw [List.length_append];omega) hS
      have hab:(a++b).length≤400:=by rw [List.length_append];omega
      have hop:∀ w,Ret Tryz.prog 10 #[] w fun v w'=>∃ g r,v=(.pointer (some ⟨g,0,none⟩))∧Sep w w' [boxC g 55 [U exD.dl,U exD.q,I exD.e,.slice none 0 0,.map (some r)],mapC r S m0]:=fun w=>by rw [hm0];exact open30_spec w
      obtain ⟨R,hR⟩:∃ R,parM exD wideL (a++b)=R:=⟨_,rfl⟩
      have hmb:=tabB_of exD wideL (a++b) (by omega)
      have hn:=parM_len exD wideL (a++b)
      have hkb:=(parM_kb exD wideL (a++b)).1
      have hwl:=par_txt exD exD wideL (a++b) true
      rw [hR] at hmb hn hkb hwl
      by_cases hok:R.k=0∧frN (R.rs.map Prod.fst)=R.rs.length
      · obtain ⟨t,htt⟩:∃ t,txtF exD true (R.rs.map Prod.fst)=t:=⟨_,rfl⟩
        obtain ⟨hp1,hp2⟩:=txt_par byD_ex rfl (R.rs.map Prod.fst) (by rw [List.length_map];omega) (fun r hr=>⟨frN_all _ (by rw [hok.2,List.length_map]) r hr,hmb r hr⟩)
        rw [htt] at hwl hp1 hp2
        obtain ⟨m3,hm3⟩:∃ m3,m3=mput m2 [120] t:=⟨_,rfl⟩
        obtain ⟨m4,hm4⟩:∃ m4,m4=mput m3 [120] t:=⟨_,rfl⟩
        have e3:m3 [120]=some t:=by rw [hm3];simp [mput]
        have e4:m4 [120]=some t:=by rw [hm4];simp [mput]
        have H5:∀ {g r:Nat} {lv:Value} {w1:World},Sep w w1 (boxC g 55 [U exD.dl,U exD.q,I exD.e,lv,.map (some r)] :: mapC r S m2 :: [])→Ret Tryz.prog 11 #[(.pointer (some ⟨g,0,none⟩)),S [112,108,97,105,110,32,120]] w1 fun v w'=>v=S [111,107]∧Sep w w' (boxC g 55 [U exD.dl,U exD.q,I exD.e,lv,.map (some r)] :: mapC r S m3 :: []):=fun hS=>by rw [hm3,←htt];exact lnPlain1 (a++b) e2 (by omega) byD_ex rfl hR hmb (by omega) hok.1 hok.2 hS
        have H6:∀ {g r:Nat} {lv:Value} {w1:World},Sep w w1 (boxC g 55 [U exD.dl,U exD.q,I exD.e,lv,.map (some r)] :: mapC r S m3 :: [])→Ret Tryz.prog 11 #[(.pointer (some ⟨g,0,none⟩)),S [115,104,111,119,32,120]] w1 fun v w'=>v=S (sqM t)∧Sep w w' (boxC g 55 [U exD.dl,U exD.q,I exD.e,lv,.map (some r)] :: mapC r S m3 :: []):=fun hS=>lnShow t e3 (by omega) hS
        have H7:∀ {g r:Nat} {lv:Value} {w1:World},Sep w w1 (boxC g 55 [U exD.dl,U exD.q,I exD.e,lv,.map (some r)] :: mapC r S m3 :: [])→Ret Tryz.prog 11 #[(.pointer (some ⟨g,0,none⟩)),S [112,108,97,105,110,32,120]] w1 fun v w'=>v=S [111,107]∧Sep w w' (boxC g 55 [U exD.dl,U exD.q,I exD.e,lv,.map (some r)] :: mapC r S m4 :: []):=fun hS=>by
          have hl3:(parM exD wideL t).rs.length=R.rs.length:=by have:=congrArg List.length hp1;simpa using this
          rw [hm4]
          have:=lnPlain1 t e3 (by omega) byD_ex rfl (rfl:parM exD wideL t=_) (by rw [hp1];exact hmb) (by omega) hp2 (by rw [hp1,hl3];exact hok.2) hS
          rw [hp1,htt] at this
          exact this
        have H8:∀ {g r:Nat} {lv:Value} {w1:World},Sep w w1 (boxC g 55 [U exD.dl,U exD.q,I exD.e,lv,.map (some r)] :: mapC r S m4 :: [])→Ret Tryz.prog 11 #[(.pointer (some ⟨g,0,none⟩)),S [115,104,111,119,32,120]] w1 fun v w'=>v=S (sqM t)∧Sep w w' (boxC g 55 [U exD.dl,U exD.q,I exD.e,lv,.map (some r)] :: mapC r S m4 :: []):=fun hS=>lnShow t e4 (by omega) hS
        clear hm0 hm1 hm2 hm3 hm4
        repeat' (first|((with_reducible apply G.a);exact rfl)|refine G.reg fun K hK=>?_|(with_reducible (refine hK _ _ ?_);clear hK K)|(have hk:=hK;clear hk;simp (disch:=first|exact dis|fail) only [push_cast,↓reduceIte,zq1,zq2,zq3,zq4,zq5,fct])|(refine brO_n ?_ ?_<;>intro hb hc<;>first|(with_reducible exact False.elim hc)|(exfalso;omega)|(simp only [hb];clear hb))|(refine zco 10 (hop _) ?_;rintro vb wb ⟨g,r,rfl,hS2⟩;have hS:=hS2.ap;simp only [apps] at hS)|(refine zn3 ?_)|(refine zn4 ?_)|((with_reducible (show CallK _ 15 [S a] _ _ _ _));refine zcp 15 (hsa _) ?_;intro wb hS)|((with_reducible (show CallK _ 15 [S b] _ _ _ _));refine zcp 15 (hsb _) ?_;intro wb hS)|((with_reducible (show CallK _ 15 [S (a++b)] _ _ _ _));refine zcp 15 (hsc _) ?_;intro wb hS)|((with_reducible (show CallK _ 11 [_,S ([112,117,116,32,120,32]++sqM a)] _ _ _ _));refine zco 11 (H1 hS) ?_;rintro vb wb ⟨rfl,hS⟩)|((with_reducible (show CallK _ 11 [_,S [115,104,111,119,32,120]] _ _ _ _));refine zco 11 (H2 hS) ?_;rintro vb wb ⟨rfl,hS⟩)|((with_reducible (show CallK _ 11 [_,S ([97,100,100,32,120,32]++sqM b)] _ _ _ _));refine zco 11 (H3 hS) ?_;rintro vb wb ⟨rfl,hS⟩)|((with_reducible (show CallK _ 11 [_,S [115,104,111,119,32,120]] _ _ _ _));refine zco 11 (H4 hS) ?_;rintro vb wb ⟨rfl,hS⟩)|((with_reducible (show CallK _ 11 [_,S [112,108,97,105,110,32,120]] _ _ _ _));refine zco 11 (H5 hS) ?_;rintro vb wb ⟨rfl,hS⟩)|((with_reducible (show CallK _ 11 [_,S [115,104,111,119,32,120]] _ _ _ _));refine zco 11 (H6 hS) ?_;rintro vb wb ⟨rfl,hS⟩)|((with_reducible (show CallK _ 11 [_,S [112,108,97,105,110,32,120]] _ _ _ _));refine zco 11 (H7 hS) ?_;rintro vb wb ⟨rfl,hS⟩)|((with_reducible (show CallK _ 11 [_,S [115,104,111,119,32,120]] _ _ _ _));refine zco 11 (H8 hS) ?_;rintro vb wb ⟨rfl,hS⟩)|(refine zcp 9 (awake30_spec _ (hv.ext (Sep.xt (by assumption))) (ht.ext (Sep.xt (by assumption)))) ?_;intro wb hS)|(refine G.cn ?_ ?_<;>intro hc<;>first|(with_reducible exact False.elim hc)|(exfalso;omega)|skip))
        all_goals
          (first|refine G.r1 ?_|refine G.r2 ?_|refine G.r3 ?_|refine G.r0 ?_|refine G.d0 ?_);(try simp (disch:=first|exact dis|fail) only [push_cast,↓reduceIte,zq1,zq2,zq3,zq4,zq5,fct])
          (first|exact Sep.xt (by assumption)|exact ⟨rfl,Sep.xt (by assumption)⟩)
      · have hf:R.k≠0∨frN (R.rs.map Prod.fst)≠R.rs.length:=by
          by_cases h:R.k=0
          · exact .inr fun h3=>hok ⟨h,h3⟩
          · exact .inl h
        have hpe:plE R≠0∧0≤plE R∧plE R≤14:=by
          unfold plE
          split
          · rename_i h
            exact ⟨frN_bad _ (by rw [List.length_map];exact hf.resolve_left (fun h3=>h3 h)),mayR_kb _⟩
          · rename_i h
            exact ⟨h,hkb.1,Int.le_trans hkb.2 (by decide)⟩
        have hno:=ans_no (plE R) hpe.1
        have H5:∀ {g r:Nat} {lv:Value} {w1:World},Sep w w1 (boxC g 55 [U exD.dl,U exD.q,I exD.e,lv,.map (some r)] :: mapC r S m2 :: [])→Ret Tryz.prog 11 #[(.pointer (some ⟨g,0,none⟩)),S [112,108,97,105,110,32,120]] w1 fun v w'=>v=S (ansM [] (plE R))∧Sep w w' (boxC g 55 [U exD.dl,U exD.q,I exD.e,lv,.map (some r)] :: mapC r S m2 :: []):=fun hS=>lnPlain0 (a++b) e2 (by omega) byD_ex rfl hR hmb (by omega) hf ⟨by omega,by omega⟩ ht hS
        generalize ansM [] (plE R)=an at *
        clear hm0 hm1 hm2
        (have fct:=@hno;repeat' (first|((with_reducible apply G.a);exact rfl)|refine G.reg fun K hK=>?_|(with_reducible (refine hK _ _ ?_);clear hK K)|(have hk:=hK;clear hk;simp (disch:=first|exact dis|fail) only [push_cast,↓reduceIte,zq1,zq2,zq3,zq4,zq5,fct])|(refine brO_n ?_ ?_<;>intro hb hc<;>first|(with_reducible exact False.elim hc)|(exfalso;omega)|(simp only [hb];clear hb))|(refine zco 10 (hop _) ?_;rintro vb wb ⟨g,r,rfl,hS2⟩;have hS:=hS2.ap;simp only [apps] at hS)|(refine zn3 ?_)|(refine zn4 ?_)|((with_reducible (show CallK _ 15 [S a] _ _ _ _));refine zcp 15 (hsa _) ?_;intro wb hS)|((with_reducible (show CallK _ 15 [S b] _ _ _ _));refine zcp 15 (hsb _) ?_;intro wb hS)|((with_reducible (show CallK _ 15 [S (a++b)] _ _ _ _));refine zcp 15 (hsc _) ?_;intro wb hS)|((with_reducible (show CallK _ 11 [_,S ([112,117,116,32,120,32]++sqM a)] _ _ _ _));refine zco 11 (H1 hS) ?_;rintro vb wb ⟨rfl,hS⟩)|((with_reducible (show CallK _ 11 [_,S [115,104,111,119,32,120]] _ _ _ _));refine zco 11 (H2 hS) ?_;rintro vb wb ⟨rfl,hS⟩)|((with_reducible (show CallK _ 11 [_,S ([97,100,100,32,120,32]++sqM b)] _ _ _ _));refine zco 11 (H3 hS) ?_;rintro vb wb ⟨rfl,hS⟩)|((with_reducible (show CallK _ 11 [_,S [115,104,111,119,32,120]] _ _ _ _));refine zco 11 (H4 hS) ?_;rintro vb wb ⟨rfl,hS⟩)|((with_reducible (show CallK _ 11 [_,S [112,108,97,105,110,32,120]] _ _ _ _));refine zco 11 (H5 hS) ?_;rintro vb wb ⟨rfl,hS⟩)|(refine zcp 9 (awake30_spec _ (hv.ext (Sep.xt (by assumption))) (ht.ext (Sep.xt (by assumption)))) ?_;intro wb hS)|(refine G.cn ?_ ?_<;>intro hc<;>first|(with_reducible exact False.elim hc)|(exfalso;omega)|skip)))<;>(try clear fct)
        all_goals
          (first|refine G.r1 ?_|refine G.r2 ?_|refine G.r3 ?_|refine G.r0 ?_|refine G.d0 ?_);(try simp (disch:=first|exact dis|fail) only [push_cast,↓reduceIte,zq1,zq2,zq3,zq4,zq5,fct])
          (first|exact Sep.xt (by assumption)|exact ⟨rfl,Sep.xt (by assumption)⟩)
    · repeat' (first|((with_reducible apply G.a);exact rfl)|refine G.reg fun K hK=>?_|(with_reducible (refine hK _ _ ?_);clear hK K)|(have hk:=hK;clear hk;simp (disch:=first|exact dis|fail) only [push_cast,↓reduceIte,zq1,zq2,zq3,zq4,zq5,fct])|(refine brO_n ?_ ?_<;>intro hb hc<;>first|(with_reducible exact False.elim hc)|(exfalso;omega)|(simp only [hb];clear hb))|(refine zcp 9 (awake30_spec _ (hv.ext (Sep.xt (by assumption))) (ht.ext (Sep.xt (by assumption)))) ?_;intro wb hS)|(refine G.cn ?_ ?_<;>intro hc<;>first|(with_reducible exact False.elim hc)|(exfalso;omega)|skip))
      all_goals
        (first|refine G.r1 ?_|refine G.r2 ?_|refine G.r3 ?_|refine G.r0 ?_|refine G.d0 ?_);(try simp (disch:=first|exact dis|fail) only [push_cast,↓reduceIte,zq1,zq2,zq3,zq4,zq5,fct])
        (first|exact Sep.xt (by assumption)|exact ⟨rfl,Sep.xt (by assumption)⟩)
  · repeat' (first|((with_reducible apply G.a);exact rfl)|refine G.reg fun K hK=>?_|(with_reducible (refine hK _ _ ?_);clear hK K)|(have hk:=hK;clear hk;simp (disch:=first|exact dis|fail) only [push_cast,↓reduceIte,zq1,zq2,zq3,zq4,zq5,fct])|(refine brO_n ?_ ?_<;>intro hb hc<;>first|(with_reducible exact False.elim hc)|(exfalso;omega)|(simp only [hb];clear hb))|(refine zcp 9 (awake30_spec _ (hv.ext (Sep.xt (by assumption))) (ht.ext (Sep.xt (by assumption)))) ?_;intro wb hS)|(refine G.cn ?_ ?_<;>intro hc<;>first|(with_reducible exact False.elim hc)|(exfalso;omega)|skip))
    all_goals
      (first|refine G.r1 ?_|refine G.r2 ?_|refine G.r3 ?_|refine G.r0 ?_|refine G.d0 ?_);(try simp (disch:=first|exact dis|fail) only [push_cast,↓reduceIte,zq1,zq2,zq3,zq4,zq5,fct])
      (first|exact Sep.xt (by assumption)|exact ⟨rfl,Sep.xt (by assumption)⟩)
end Go.Proofs.YtllanbmpacgigaaGreatDoor
