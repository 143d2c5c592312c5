/- Texts of the proof, joined. -/
import Derived.Test.YtllanbmpacgigaaGreatDoorIW06
import Derived.Test.YtllanbmpacgigaaGreatDoorIW15
namespace Go.Proofs.YtllanbmpacgigaaGreatDoor
open Operand renaming tmp→Y,const→yc
open MC renaming seq→Z,reg→yr,skip→yk,cond→yd
open MO renaming call→yl,bin→yb
open Nat renaming reduceAdd→zq1,reduceLeDiff→zq2,reduceEqDiff→zq3,reduceLT→zq4
open Int renaming reduceToNat→zq5
set_option linter.unusedSimpArgs false
set_option linter.unusedVariables false
attribute [local irreducible] SemK UnitK StK AlcK BslK CallK CallV Instr.box Builtin.append_ Instr.makeSlice Instr.makeMap Instr.lookup Instr.mapUpdate Instr.sliceAt convert
open Go.RowKit
def c20l1:MC:=(Z (yr [qq 11 (yb .lss (Y 10) (ki 2))]) (Z (yd (Y 11) yk (.exit 0)) (Z (.blk 1 (Z (yr [qq 12 (.raw (.index 75 (Y 9) (Y 10)) 3),qm 4 12]) (Z (yr [qm 13 4,qq 14 (yb .lss (Y 13) (ki 0)),qm 15 14,qmf 15 16 4,qf 15 17 (yb .gtr (Y 16) (ki 127)),qq 18 (.pick (Y 15) (kb true) (Y 17)),qm 19 18,qmf 19 20 4,qf 19 21 (yb .eql (Y 20) (ki 10)),qq 22 (.pick (Y 19) (kb true) (Y 21)),qm 23 22,qmf 23 24 4,qf 23 25 (yb .eql (Y 24) (ki 13)),qq 26 (.pick (Y 23) (kb true) (Y 25))]) (yd (Y 26) (Z (yr [qq 2 (.mv (kb false))]) .ret) yk)))) (yr [qq 27 (yb .add (Y 10) (ki 1)),qm 10 27]))))
def c20:MC:=(Z (yr [qq 1 (.raw (.box 44 (Y 0)) 0),qq 2 (.mv (kb false))]) (Z (Z (yr [qq 5 (.fad 0 (Y 1)),qq 6 (.ld none (Y 5)),qq 7 (.fad 1 (Y 1)),qq 8 (.ld none (Y 7)),qq 9 (.bld [(.int .i64 0),(.int .i64 0)] [⟨0,⟨1,(Y 6)⟩⟩,⟨1,⟨1,(Y 8)⟩⟩]),qq 10 (.mv (ki 0))]) (.blk 0 (.loop c20l1))) (Z (yr [qq 28 (.fad 0 (Y 1)),qq 29 (.ld none (Y 28)),qq 30 (.fad 1 (Y 1)),qq 31 (.ld none (Y 30)),qq 32 (yb .neq (Y 29) (Y 31)),qm 33 32,qt 33 34 (.fad 2 (Y 1)),qt 33 35 (.ld none (Y 34)),qt 33 36 (yb .eql (Y 35) (ki 1)),qmt 33 37 36,qf 37 38 (.fad 2 (Y 1)),qf 37 39 (.ld none (Y 38)),qf 37 40 (yb .eql (Y 39) (ki 2)),qt 33 41 (.pick (Y 37) (kb true) (Y 40)),qmt 33 42 41,qf 42 43 (.fad 2 (Y 1)),qf 42 44 (.ld none (Y 43)),qf 42 45 (yb .eql (Y 44) (ki 3)),qt 33 46 (.pick (Y 42) (kb true) (Y 45)),qq 47 (.pick (Y 33) (Y 46) (kb false)),qm 2 47]) .ret)))
def c21:MC:=(Z (yr [qq 1 (.raw (.box 39 (Y 0)) 0),qq 2 (.alc 44 [(.int .i64 0),(.int .i64 0),(.int .i64 0)])]) (Z (yr [qq 3 (.fad 0 (Y 1)),qq 4 (.ld none (Y 3)),qq 5 (.cvi .i64 (Y 4)),qq 6 (.fad 1 (Y 1)),qq 7 (.ld none (Y 6)),qq 8 (.cvi .i64 (Y 7)),qq 9 (.fad 2 (Y 1)),qq 10 (.ld none (Y 9)),qq 11 (.bld [(.int .i64 0),(.int .i64 0),(.int .i64 0)] [⟨0,⟨1,(Y 5)⟩⟩,⟨1,⟨1,(Y 8)⟩⟩,⟨2,⟨1,(Y 10)⟩⟩]),qn (.st 3 (Y 2) (Y 11))]) .ret))
def stripM (s:Str):Str:=if s.take 3=[239,187,191] then s.drop 3 else s
def c87:MC:=(Z (yr [qq 2 (.mv (yc (S []))),qq 3 (.mv (kb false))]) (Z (yr [qm 4 0,qq 5 (yl 128 [(Y 4),(yc (S [239,187,191]))]),qq 6 (.ext 0 (Y 5)),qq 7 (.ext 1 (Y 5)),qm 2 6,qm 3 7]) .ret))
theorem strip_spec (s:Str) (w:World) (hl:s.length≤1000000000):Pu Tryz.prog 87 #[S s] w (.tuple #[S (stripM s),.bool (decide (s.take 3=[239,187,191]))]):=by
 refine En 8 c87 Tryz.func87 ?_
 have hS:=Sep.start w
 have h:=cutp_spec s [239,187,191] (hl:=hl) (hp:=by decide)
 have e1:(if (s.take ([239,187,191]:Str).length == [239,187,191])=true then s.drop ([239,187,191]:Str).length else s)=stripM s:=by
  unfold stripM;by_cases h:s.take 3=[239,187,191]<;>simp [h]
 have e2:(s.take ([239,187,191]:Str).length == [239,187,191])=decide (s.take 3=[239,187,191]):=by
  rw [Bool.eq_iff_iff];simp
 rw [e1,e2] at h
 repeat' (first|refine G.reg fun K hK=>?_|(refine kM ?_;clear hK K)|refine sA ?_|(refine zcp 128 (h _) ?_;intro wb hS))
 refine rM ?_
 (first|exact Sep.xt ‹_›|exact ⟨rfl,Sep.xt ‹_›⟩)
def MkS (w0 w:World) (g:Nat) (l:Lm) (m:Mk) (M:List Chk):Prop:=∃ fv rv,Sep w0 w (boxC g 192 [I l.F,I l.N,I l.R,.bool l.U,fv,rv,I m.bg,I m.ct,I m.wd,I 0] :: accC fv 5 eU m.fl :: accC rv 9 eS m.rc :: M)
theorem MkS.of {w0 w:World} {g:Nat} {l:Lm} {m:Mk} {fv rv:Value} {L L1 L2 L3:List Chk} (hS:Sep w0 w L)
 (h1:Ex (boxC g 192 [I l.F,I l.N,I l.R,.bool l.U,fv,rv,I m.bg,I m.ct,I m.wd,I 0]) L L1) (h2:Ex (accC fv 5 eU m.fl) L1 L2) (h3:Ex (accC rv 9 eS m.rc) L2 L3):MkS w0 w g l m L3 :=
 ⟨fv,rv,Sep.sub hS (.c h1 (.c h2 (.c h3 Sub.rfl')))⟩
def bdM (n:Nat) (m:Mk):Prop:=m.fl.length≤n∧m.rc.length≤n∧m.bg≤n∧m.ct≤n
def okEv (e:Ev):Prop:=(e.b=false∧e.a=false∧e.f=false∧e.l=false)∨(e.b=true∧e.a=false∧e.f=false∧e.l=false)∨(e.b=true∧e.a=false∧e.f=true∧e.l=false)
 ∨ (e.b=true∧e.a=true∧e.f=false∧e.l=false)∨(e.b=false∧e.a=true∧e.f=false∧e.l=false)∨(e.b=false∧e.a=false∧e.f=true∧e.l=false)∨(e.b=false∧e.a=false∧e.f=false∧e.l=true)
theorem sc_ev (d:Dl) (st:Int) (b:UInt8):okEv (scM d st b).1:=by
 unfold scM startM inM okEv
 repeat' split
 all_goals simp
theorem close_ev (st:Int):okEv (closeM st).1:=by
 unfold closeM okEv
 repeat' split
 all_goals simp
def c194:MC:=(Z (.drg [qm 2 0,qm 3 0,qq 4 (.nck (Y 3)),qq 5 (.fad 5 (Y 4)),qq 6 (.ld none (Y 5)),qm 7 0,qq 8 (.nck (Y 7)),qq 9 (.fad 4 (Y 8)),qq 10 (.ld none (Y 9)),qq 11 (.b2s (Y 10)),qq 12 (.bsl 9 [(S [])] 1 [⟨0,⟨1,(Y 11)⟩⟩]),qq 13 (.raw (.call ⟨(.builtin .append),#[(Y 6),(Y 12)],#[22,22]⟩) 22),qq 14 (.nck (Y 2)),qq 15 (.fad 5 (Y 14)),qn (.st 1 (Y 15) (Y 13))] (.some (.br [qm 2 0,qm 3 0,qq 4 (.nck (Y 3)),qq 5 (.fad 5 (Y 4)),qm 7 0,qq 8 (.nck (Y 7)),qq 9 (.fad 4 (Y 8))] (.leaf [qq 6 (.ld none (Y 5)),qq 10 (.ld none (Y 9)),qq 11 (.b2s (Y 10)),qq 12 (.bsl 9 [(S [])] 1 [⟨0,⟨1,(Y 11)⟩⟩]),qq 13 (.raw (.call ⟨(.builtin .append),#[(Y 6),(Y 12)],#[22,22]⟩) 22),qq 14 (.nck (Y 2)),qq 15 (.fad 5 (Y 14)),qn (.st 1 (Y 15) (Y 13))]) (.br [qq 10 (.ld none (Y 9))] (.leaf [qq 6 (.ld none (Y 5)),qq 11 (.b2s (Y 10)),qq 12 (.bsl 9 [(S [])] 1 [⟨0,⟨1,(Y 11)⟩⟩]),qq 13 (.raw (.call ⟨(.builtin .append),#[(Y 6),(Y 12)],#[22,22]⟩) 22),qq 14 (.nck (Y 2)),qq 15 (.fad 5 (Y 14)),qn (.st 1 (Y 15) (Y 13))]) (.br [qq 11 (.b2s (Y 10))] (.leaf [qq 6 (.ld none (Y 5)),qq 12 (.bsl 9 [(S [])] 1 [⟨0,⟨1,(Y 11)⟩⟩]),qq 13 (.raw (.call ⟨(.builtin .append),#[(Y 6),(Y 12)],#[22,22]⟩) 22),qq 14 (.nck (Y 2)),qq 15 (.fad 5 (Y 14)),qn (.st 1 (Y 15) (Y 13))]) (.leaf [qq 12 (.bsl 9 [(S [])] 1 [⟨0,⟨1,(Y 11)⟩⟩]),qq 6 (.ld none (Y 5)),qq 13 (.raw (.call ⟨(.builtin .append),#[(Y 6),(Y 12)],#[22,22]⟩) 22),qq 14 (.nck (Y 2)),qq 15 (.fad 5 (Y 14)),qn (.st 1 (Y 15) (Y 13))])))))) (yr [qm 16 0,qm 17 0,qq 18 (.nck (Y 17)),qq 19 (.fad 4 (Y 18)),qq 20 (.ld none (Y 19)),qq 21 (.slV 1 (Y 20) none (.some (ki 0))),qq 22 (.nck (Y 16)),qq 23 (.fad 4 (Y 22)),qn (.st 1 (Y 23) (Y 21))]))
theorem mput_spec {g:Nat} {l:Lm} {m:Mk} {M:List Chk} {w w0:World} (hM:MkS w0 w g l m M) (hb:bdM 1000000000 m) :
 Ret Tryz.prog 194 #[.pointer (some ⟨g,0,none⟩)] w fun res w'=>res=.tuple #[]∧MkS w0 w' g l m.put M:=by
 refine En 24 c194 Tryz.func194 ?_
 obtain ⟨fv,rv,hS⟩:=hM
 obtain ⟨b1,b2,b3,b4⟩:=hb
 have hr0:=(Sep.rd hS (.t .h)).slh (k:=.i64) (b:=0) (n:=1) rfl zo
 repeat' (first|(refine gO ?_;intro K hK)|(refine kP ?_;clear hK K)|(refine hK _ _ ?_ ?_<;>clear hK K)|(intro wd hxd;have hS:=Sep.xx hxd)|refine sA ?_|(refine zbsl ?_;intro gb wb hS)|((with_reducible refine gSt ?_);refine zs2 ?_;intro wb hS)|(refine zap ?_;intro vb wb hS))
 all_goals
  refine G.done0 rfl ⟨rfl,_,_,Sep.sub (Sep.cut0 (k:=.i64) (sz:=1) (v:=fv) (E:=eU) (xs:=m.fl) hS zr) zv⟩
def GRes (w0 w':World) (g:Nat) (l:Lm) (M:List Chk) (res:Value):Except Int Mk→Prop
 | .error k=>res=I k∧∃ m',MkS w0 w' g l m' M
 | .ok m'=>res=I 0∧MkS w0 w' g l m' M
theorem Mk.put_fl (m:Mk):m.put.fl=[]:=rfl
theorem Mk.put_rc (m:Mk):m.put.rc=m.rc++[m.fl]:=rfl
theorem Mk.put_bg (m:Mk):m.put.bg=m.bg:=rfl
theorem Mk.put_ct (m:Mk):m.put.ct=m.ct:=rfl
theorem Mk.put_wd (m:Mk):m.put.wd=m.wd:=rfl
def c172:MC:=(Z (yr [qq 3 (.raw (.box 197 (Y 1)) 0),qq 4 (.mv (ki 0))]) (Z (Z (yr [qq 6 (.fad 0 (Y 3)),qq 7 (.ld none (Y 6))]) (yd (Y 7) (Z (Z (.drg [qm 8 0,qq 9 (.nck (Y 8)),qq 10 (.fad 6 (Y 9)),qq 11 (.ld none (Y 10)),qm 12 0,qq 13 (.nck (Y 12)),qq 14 (.fad 0 (Y 13)),qq 15 (.fad 2 (Y 14)),qq 16 (.ld none (Y 15)),qq 17 (yb .geq (Y 11) (Y 16))] none) (yd (Y 17) (Z (yr [qq 4 (.mv (ki 9))]) .ret) yk)) (yr [qm 18 0,qq 19 (.nck (Y 18)),qq 20 (.fad 6 (Y 19)),qq 21 (.ld none (Y 20)),qq 22 (yb .add (Y 21) (ki 1)),qq 23 (.nck (Y 18)),qq 24 (.fad 6 (Y 23)),qn (.st 1 (Y 24) (Y 22))])) yk)) (Z (Z (yr [qq 25 (.fad 1 (Y 3)),qq 26 (.ld none (Y 25))]) (yd (Y 26) (Z (Z (.drg [qm 27 0,qq 28 (.nck (Y 27)),qq 29 (.fad 4 (Y 28)),qq 30 (.ld none (Y 29)),qq 31 (.len (Y 30)),qm 32 0,qq 33 (.nck (Y 32)),qq 34 (.fad 0 (Y 33)),qq 35 (.fad 0 (Y 34)),qq 36 (.ld none (Y 35)),qq 37 (yb .geq (Y 31) (Y 36))] none) (yd (Y 37) (Z (yr [qq 4 (.mv (ki 7))]) .ret) yk)) (.drg [qm 38 0,qm 39 0,qq 40 (.nck (Y 39)),qq 41 (.fad 4 (Y 40)),qq 42 (.ld none (Y 41)),qq 43 (.fad 5 (Y 3)),qq 44 (.ld none (Y 43)),qq 45 (.bsl 5 [(.int .u8 0)] 1 [⟨0,⟨1,(Y 44)⟩⟩]),qq 46 (.raw (.call ⟨(.builtin .append),#[(Y 42),(Y 45)],#[65,65]⟩) 65),qq 47 (.nck (Y 38)),qq 48 (.fad 4 (Y 47)),qn (.st 1 (Y 48) (Y 46))] (.some (.br [qm 38 0,qm 39 0,qq 40 (.nck (Y 39)),qq 41 (.fad 4 (Y 40)),qq 43 (.fad 5 (Y 3))] (.leaf [qq 42 (.ld none (Y 41)),qq 44 (.ld none (Y 43)),qq 45 (.bsl 5 [(.int .u8 0)] 1 [⟨0,⟨1,(Y 44)⟩⟩]),qq 46 (.raw (.call ⟨(.builtin .append),#[(Y 42),(Y 45)],#[65,65]⟩) 65),qq 47 (.nck (Y 38)),qq 48 (.fad 4 (Y 47)),qn (.st 1 (Y 48) (Y 46))]) (.br [qq 44 (.ld none (Y 43))] (.leaf [qq 42 (.ld none (Y 41)),qq 45 (.bsl 5 [(.int .u8 0)] 1 [⟨0,⟨1,(Y 44)⟩⟩]),qq 46 (.raw (.call ⟨(.builtin .append),#[(Y 42),(Y 45)],#[65,65]⟩) 65),qq 47 (.nck (Y 38)),qq 48 (.fad 4 (Y 47)),qn (.st 1 (Y 48) (Y 46))]) (.leaf [qq 45 (.bsl 5 [(.int .u8 0)] 1 [⟨0,⟨1,(Y 44)⟩⟩]),qq 42 (.ld none (Y 41)),qq 46 (.raw (.call ⟨(.builtin .append),#[(Y 42),(Y 45)],#[65,65]⟩) 65),qq 47 (.nck (Y 38)),qq 48 (.fad 4 (Y 47)),qn (.st 1 (Y 48) (Y 46))])))))) yk)) (Z (yr [qm 49 0,qq 50 (.nck (Y 49)),qq 51 (.fad 0 (Y 50)),qq 52 (.fad 3 (Y 51)),qq 53 (.ld none (Y 52)),qm 54 53,qmt 54 55 0,qt 54 56 (.nck (Y 55)),qt 54 57 (.fad 7 (Y 56)),qt 54 58 (.ld none (Y 57)),qt 54 59 (yb .gtr (Y 58) (ki 0)),qq 60 (.pick (Y 54) (Y 59) (kb false)),qm 5 60]) (Z (Z (yr [qq 61 (.fad 2 (Y 3)),qq 62 (.ld none (Y 61))]) (yd (Y 62) (Z (yr [qm 63 0,qq 64 (yl 194 [(Y 63)])]) (Z (Z (.drg [qm 65 0,qq 66 (.nck (Y 65)),qq 67 (.fad 5 (Y 66)),qq 68 (.ld none (Y 67)),qq 69 (.len (Y 68)),qm 70 0,qq 71 (.nck (Y 70)),qq 72 (.fad 0 (Y 71)),qq 73 (.fad 1 (Y 72)),qq 74 (.ld none (Y 73)),qq 75 (yb .geq (Y 69) (Y 74))] none) (yd (Y 75) (Z (yr [qq 4 (.mv (ki 8))]) .ret) yk)) (Z (.drg [qm 76 5,qm 77 76,qmt 77 78 0,qt 77 79 (.nck (Y 78)),qt 77 80 (.fad 5 (Y 79)),qt 77 81 (.ld none (Y 80)),qt 77 82 (.len (Y 81)),qmt 77 83 0,qt 77 84 (.nck (Y 83)),qt 77 85 (.fad 8 (Y 84)),qt 77 86 (.ld none (Y 85)),qt 77 87 (yb .eql (Y 82) (Y 86)),qq 88 (.pick (Y 77) (Y 87) (kb false))] none) (yd (Y 88) (Z (yr [qq 4 (.mv (ki 10))]) .ret) yk)))) yk)) (Z (Z (yr [qq 89 (.fad 3 (Y 3)),qq 90 (.ld none (Y 89))]) (yd (Y 90) (Z (yr [qm 91 0,qq 92 (yl 194 [(Y 91)])]) (Z (.drg [qm 93 5,qm 94 93,qmt 94 95 0,qt 94 96 (.nck (Y 95)),qt 94 97 (.fad 5 (Y 96)),qt 94 98 (.ld none (Y 97)),qt 94 99 (.len (Y 98)),qmt 94 100 0,qt 94 101 (.nck (Y 100)),qt 94 102 (.fad 8 (Y 101)),qt 94 103 (.ld none (Y 102)),qt 94 104 (yb .neq (Y 99) (Y 103)),qq 105 (.pick (Y 94) (Y 104) (kb false))] none) (yd (Y 105) (Z (yr [qq 4 (.mv (ki 10))]) .ret) yk))) yk)) (Z (yr [qq 4 (.mv (ki 0))]) .ret)))))))
section
variable {g:Nat} {l:Lm} {m:Mk} {M:List Chk} {w w0:World} {er:Bool} {ec:UInt8}
theorem ga0 (hM:MkS w0 w g l m M) (hb:bdM 900000000 m):Ret Tryz.prog 172 #[.pointer (some ⟨g,0,none⟩),.agg #[.bool false,.bool false,.bool false,.bool false,.bool er,U ec.toNat]] w fun res w'=>GRes w0 w' g l M res (.ok m):=by
 refine En 106 c172 Tryz.func172 ?_
 obtain ⟨fv,rv,hS⟩:=hM
 obtain ⟨b1,b2,b3,b4⟩:=hb
 repeat' (first|(refine gO ?_;intro K hK)|(refine kP ?_;clear hK K)|(refine hK _ _ ?_ ?_<;>clear hK K)|(intro wd hxd;have hS:=Sep.xx hxd)|refine sA ?_|(refine bM ?_ ?_<;>intro hb hc<;>first|exact zxf|(simp only [hb];clear hb))|((first|refine zalc ?_|refine zbsl ?_|((with_reducible refine gBox ?_);refine zbox ?_));intro gb wb hS)|((with_reducible refine gSt ?_);refine zs2 ?_;intro wb hS)|(refine zcv ?_)|(refine G.cn ?_ ?_<;>intro hc<;>try exact zxf))
 all_goals
  refine rM ?_
  exact ⟨rfl,_,_,Sep.sub hS zv⟩
theorem gaB0 (hM:MkS w0 w g l m M) (hb:bdM 900000000 m) (c1:l.R≤m.bg) (ea ef:Bool):Ret Tryz.prog 172 #[.pointer (some ⟨g,0,none⟩),.agg #[.bool true,.bool ea,.bool ef,.bool false,.bool er,U ec.toNat]] w fun res w'=>GRes w0 w' g l M res (.error 9):=by
 refine En 106 c172 Tryz.func172 ?_
 obtain ⟨fv,rv,hS⟩:=hM
 obtain ⟨b1,b2,b3,b4⟩:=hb
 repeat' (first|(refine gO ?_;intro K hK)|(refine kP ?_;clear hK K)|(refine hK _ _ ?_ ?_<;>clear hK K)|(intro wd hxd;have hS:=Sep.xx hxd)|refine sA ?_|(refine bM ?_ ?_<;>intro hb hc<;>first|exact zxf|(simp only [hb];clear hb))|((first|refine zalc ?_|refine zbsl ?_|((with_reducible refine gBox ?_);refine zbox ?_));intro gb wb hS)|((with_reducible refine gSt ?_);refine zs2 ?_;intro wb hS)|(refine zcv ?_)|(refine G.cn ?_ ?_<;>intro hc<;>try exact zxf))
 all_goals
  refine rM ?_
  exact ⟨rfl,m,_,_,Sep.sub hS zv⟩
theorem gaB1 (hM:MkS w0 w g l m M) (hb:bdM 900000000 m) (c1:¬ l.R≤m.bg):Ret Tryz.prog 172 #[.pointer (some ⟨g,0,none⟩),.agg #[.bool true,.bool false,.bool false,.bool false,.bool er,U ec.toNat]] w fun res w'=>GRes w0 w' g l M res (.ok { m with bg:=m.bg+1 }):=by
 refine En 106 c172 Tryz.func172 ?_
 obtain ⟨fv,rv,hS⟩:=hM
 obtain ⟨b1,b2,b3,b4⟩:=hb
 repeat' (first|(refine gO ?_;intro K hK)|(refine kP ?_;clear hK K)|(refine hK _ _ ?_ ?_<;>clear hK K)|(intro wd hxd;have hS:=Sep.xx hxd)|refine sA ?_|(refine bM ?_ ?_<;>intro hb hc<;>first|exact zxf|(simp only [hb];clear hb))|((first|refine zalc ?_|refine zbsl ?_|((with_reducible refine gBox ?_);refine zbox ?_));intro gb wb hS)|((with_reducible refine gSt ?_);refine zs2 ?_;intro wb hS)|(refine zcv ?_)|(refine G.cn ?_ ?_<;>intro hc<;>try exact zxf))
 all_goals
  refine rM ?_
  exact ⟨rfl,_,_,Sep.sub hS zv⟩
theorem gaA0 (hM:MkS w0 w g l m M) (hb:bdM 900000000 m) (c1:l.F≤m.fl.length):Ret Tryz.prog 172 #[.pointer (some ⟨g,0,none⟩),.agg #[.bool false,.bool true,.bool false,.bool false,.bool er,U ec.toNat]] w fun res w'=>GRes w0 w' g l M res (.error 7):=by
 refine En 106 c172 Tryz.func172 ?_
 obtain ⟨fv,rv,hS⟩:=hM
 obtain ⟨b1,b2,b3,b4⟩:=hb
 repeat' (first|(refine gO ?_;intro K hK)|(refine kP ?_;clear hK K)|(refine hK _ _ ?_ ?_<;>clear hK K)|(intro wd hxd;have hS:=Sep.xx hxd)|refine sA ?_|(refine bM ?_ ?_<;>intro hb hc<;>first|exact zxf|(simp only [hb];clear hb))|((first|refine zalc ?_|refine zbsl ?_|((with_reducible refine gBox ?_);refine zbox ?_));intro gb wb hS)|((with_reducible refine gSt ?_);refine zs2 ?_;intro wb hS)|(refine zcv ?_)|(refine G.cn ?_ ?_<;>intro hc<;>try exact zxf))
 all_goals
  refine rM ?_
  exact ⟨rfl,m,_,_,Sep.sub hS zv⟩
theorem gaA1 (hM:MkS w0 w g l m M) (hb:bdM 900000000 m) (c1:¬ l.F≤m.fl.length):Ret Tryz.prog 172 #[.pointer (some ⟨g,0,none⟩),.agg #[.bool false,.bool true,.bool false,.bool false,.bool er,U ec.toNat]] w fun res w'=>GRes w0 w' g l M res (.ok { m with fl:=m.fl++[ec] }):=by
 refine En 106 c172 Tryz.func172 ?_
 obtain ⟨fv,rv,hS⟩:=hM
 obtain ⟨b1,b2,b3,b4⟩:=hb
 repeat' (first|(refine gO ?_;intro K hK)|(refine kP ?_;clear hK K)|(refine hK _ _ ?_ ?_<;>clear hK K)|(intro wd hxd;have hS:=Sep.xx hxd)|refine sA ?_|(refine bM ?_ ?_<;>intro hb hc<;>first|exact zxf|(simp only [hb];clear hb))|((first|refine zalc ?_|refine zbsl ?_|((with_reducible refine gBox ?_);refine zbox ?_));intro gb wb hS)|((with_reducible refine gSt ?_);refine zs2 ?_;intro wb hS)|(refine zcv ?_)|(refine zap (E:=eU) (y:=ec) ?_;intro vb wb hS)|(refine G.cn ?_ ?_<;>intro hc<;>try exact zxf))
 all_goals
  refine rM ?_
  exact ⟨rfl,_,_,Sep.sub hS zv⟩
theorem gaBA0 (hM:MkS w0 w g l m M) (hb:bdM 900000000 m) (c1:¬ l.R≤m.bg) (c2:l.F≤m.fl.length):Ret Tryz.prog 172 #[.pointer (some ⟨g,0,none⟩),.agg #[.bool true,.bool true,.bool false,.bool false,.bool er,U ec.toNat]] w fun res w'=>GRes w0 w' g l M res (.error 7):=by
 refine En 106 c172 Tryz.func172 ?_
 obtain ⟨fv,rv,hS⟩:=hM
 obtain ⟨b1,b2,b3,b4⟩:=hb
 repeat' (first|(refine gO ?_;intro K hK)|(refine kP ?_;clear hK K)|(refine hK _ _ ?_ ?_<;>clear hK K)|(intro wd hxd;have hS:=Sep.xx hxd)|refine sA ?_|(refine bM ?_ ?_<;>intro hb hc<;>first|exact zxf|(simp only [hb];clear hb))|((first|refine zalc ?_|refine zbsl ?_|((with_reducible refine gBox ?_);refine zbox ?_));intro gb wb hS)|((with_reducible refine gSt ?_);refine zs2 ?_;intro wb hS)|(refine zcv ?_)|(refine G.cn ?_ ?_<;>intro hc<;>try exact zxf))
 all_goals
  refine rM ?_
  exact ⟨rfl,{ m with bg:=m.bg+1 },_,_,Sep.sub hS zv⟩
theorem gaBA1 (hM:MkS w0 w g l m M) (hb:bdM 900000000 m) (c1:¬ l.R≤m.bg) (c2:¬ l.F≤m.fl.length):Ret Tryz.prog 172 #[.pointer (some ⟨g,0,none⟩),.agg #[.bool true,.bool true,.bool false,.bool false,.bool er,U ec.toNat]] w fun res w'=>GRes w0 w' g l M res (.ok { m with bg:=m.bg+1,fl:=m.fl++[ec] }):=by
 refine En 106 c172 Tryz.func172 ?_
 obtain ⟨fv,rv,hS⟩:=hM
 obtain ⟨b1,b2,b3,b4⟩:=hb
 repeat' (first|(refine gO ?_;intro K hK)|(refine kP ?_;clear hK K)|(refine hK _ _ ?_ ?_<;>clear hK K)|(intro wd hxd;have hS:=Sep.xx hxd)|refine sA ?_|(refine bM ?_ ?_<;>intro hb hc<;>first|exact zxf|(simp only [hb];clear hb))|((first|refine zalc ?_|refine zbsl ?_|((with_reducible refine gBox ?_);refine zbox ?_));intro gb wb hS)|((with_reducible refine gSt ?_);refine zs2 ?_;intro wb hS)|(refine zcv ?_)|(refine zap (E:=eU) (y:=ec) ?_;intro vb wb hS)|(refine G.cn ?_ ?_<;>intro hc<;>try exact zxf))
 all_goals
  refine rM ?_
  exact ⟨rfl,_,_,Sep.sub hS zv⟩
theorem gaF0 (hM:MkS w0 w g l m M) (hb:bdM 900000000 m) (c2:l.N≤((m.rc++[m.fl]).length:Int)):Ret Tryz.prog 172 #[.pointer (some ⟨g,0,none⟩),.agg #[.bool false,.bool false,.bool true,.bool false,.bool er,U ec.toNat]] w fun res w'=>GRes w0 w' g l M res (.error 8):=by
 refine En 106 c172 Tryz.func172 ?_
 obtain ⟨fv,rv,hS⟩:=hM
 obtain ⟨b1,b2,b3,b4⟩:=hb
 repeat' (first|(refine gO ?_;intro K hK)|(refine kP ?_;clear hK K)|(refine hK _ _ ?_ ?_<;>clear hK K)|(intro wd hxd;have hS:=Sep.xx hxd)|refine sA ?_|(refine bM ?_ ?_<;>intro hb hc<;>first|exact zxf|(simp only [hb];clear hb))|((first|refine zalc ?_|refine zbsl ?_|((with_reducible refine gBox ?_);refine zbox ?_));intro gb wb hS)|((with_reducible refine gSt ?_);refine zs2 ?_;intro wb hS)|(refine zcv ?_)|((with_reducible (show CallK _ 194 _ _ _ _ _));have hx:=MkS.of (l:=l) (m:=m) hS zr zr zr;refine zco 194 (mput_spec (m:=m) hx (by unfold bdM;refine ⟨?_,?_,?_,?_⟩<;>first|omega|(simp;omega))) ?_;clear hx;rintro vb wb ⟨rfl,fv2,rv2,hS⟩;simp only [Mk.put_fl,Mk.put_rc,Mk.put_bg,Mk.put_ct,Mk.put_wd] at hS)|(refine G.cn ?_ ?_<;>intro hc<;>try exact zxf))
 all_goals
  refine rM ?_
  exact ⟨rfl,m.put,_,_,Sep.sub hS zv⟩
theorem gaF1 (hM:MkS w0 w g l m M) (hb:bdM 900000000 m) (c2:¬ l.N≤((m.rc++[m.fl]).length:Int)) (hU:l.U=false):Ret Tryz.prog 172 #[.pointer (some ⟨g,0,none⟩),.agg #[.bool false,.bool false,.bool true,.bool false,.bool er,U ec.toNat]] w fun res w'=>GRes w0 w' g l M res (.ok m.put):=by
 refine En 106 c172 Tryz.func172 ?_
 obtain ⟨fv,rv,hS⟩:=hM
 obtain ⟨b1,b2,b3,b4⟩:=hb
 (have fct:=@hU;repeat' (first|(refine gO ?_;intro K hK)|(refine kP ?_;clear hK K)|(refine hK _ _ ?_ ?_<;>clear hK K)|(intro wd hxd;have hS:=Sep.xx hxd)|refine sA ?_|(refine bM ?_ ?_<;>intro hb hc<;>first|exact zxf|(simp only [hb];clear hb))|((first|refine zalc ?_|refine zbsl ?_|((with_reducible refine gBox ?_);refine zbox ?_));intro gb wb hS)|((with_reducible refine gSt ?_);refine zs2 ?_;intro wb hS)|(refine zcv ?_)|((with_reducible (show CallK _ 194 _ _ _ _ _));have hx:=MkS.of (l:=l) (m:=m) hS zr zr zr;refine zco 194 (mput_spec (m:=m) hx (by unfold bdM;refine ⟨?_,?_,?_,?_⟩<;>first|omega|(simp;omega))) ?_;clear hx;rintro vb wb ⟨rfl,fv2,rv2,hS⟩;simp only [Mk.put_fl,Mk.put_rc,Mk.put_bg,Mk.put_ct,Mk.put_wd] at hS)|(refine G.cn ?_ ?_<;>intro hc<;>try exact zxf)))<;>(try clear fct)
 all_goals
  refine rM ?_
  exact ⟨rfl,_,_,Sep.sub hS zv⟩
theorem gaF2 (hM:MkS w0 w g l m M) (hb:bdM 900000000 m) (c2:¬ l.N≤((m.rc++[m.fl]).length:Int)) (hU:l.U=true) (hct:¬ (0:Int) < m.ct):Ret Tryz.prog 172 #[.pointer (some ⟨g,0,none⟩),.agg #[.bool false,.bool false,.bool true,.bool false,.bool er,U ec.toNat]] w fun res w'=>GRes w0 w' g l M res (.ok m.put):=by
 refine En 106 c172 Tryz.func172 ?_
 obtain ⟨fv,rv,hS⟩:=hM
 obtain ⟨b1,b2,b3,b4⟩:=hb
 (have fct:=@hU;repeat' (first|(refine gO ?_;intro K hK)|(refine kP ?_;clear hK K)|(refine hK _ _ ?_ ?_<;>clear hK K)|(intro wd hxd;have hS:=Sep.xx hxd)|refine sA ?_|(refine bM ?_ ?_<;>intro hb hc<;>first|exact zxf|(simp only [hb];clear hb))|((first|refine zalc ?_|refine zbsl ?_|((with_reducible refine gBox ?_);refine zbox ?_));intro gb wb hS)|((with_reducible refine gSt ?_);refine zs2 ?_;intro wb hS)|(refine zcv ?_)|((with_reducible (show CallK _ 194 _ _ _ _ _));have hx:=MkS.of (l:=l) (m:=m) hS zr zr zr;refine zco 194 (mput_spec (m:=m) hx (by unfold bdM;refine ⟨?_,?_,?_,?_⟩<;>first|omega|(simp;omega))) ?_;clear hx;rintro vb wb ⟨rfl,fv2,rv2,hS⟩;simp only [Mk.put_fl,Mk.put_rc,Mk.put_bg,Mk.put_ct,Mk.put_wd] at hS)|(refine G.cn ?_ ?_<;>intro hc<;>try exact zxf)))<;>(try clear fct)
 all_goals
  refine rM ?_
  exact ⟨rfl,_,_,Sep.sub hS zv⟩
theorem gaF3 (hM:MkS w0 w g l m M) (hb:bdM 900000000 m) (c2:¬ l.N≤((m.rc++[m.fl]).length:Int)) (hU:l.U=true) (hct:(0:Int) < m.ct) (hw:((m.rc++[m.fl]).length:Int)=m.wd):Ret Tryz.prog 172 #[.pointer (some ⟨g,0,none⟩),.agg #[.bool false,.bool false,.bool true,.bool false,.bool er,U ec.toNat]] w fun res w'=>GRes w0 w' g l M res (.error 10):=by
 refine En 106 c172 Tryz.func172 ?_
 obtain ⟨fv,rv,hS⟩:=hM
 obtain ⟨b1,b2,b3,b4⟩:=hb
 (have fct:=@hU;repeat' (first|(refine gO ?_;intro K hK)|(refine kP ?_;clear hK K)|(refine hK _ _ ?_ ?_<;>clear hK K)|(intro wd hxd;have hS:=Sep.xx hxd)|refine sA ?_|(refine bM ?_ ?_<;>intro hb hc<;>first|exact zxf|(simp only [hb];clear hb))|((first|refine zalc ?_|refine zbsl ?_|((with_reducible refine gBox ?_);refine zbox ?_));intro gb wb hS)|((with_reducible refine gSt ?_);refine zs2 ?_;intro wb hS)|(refine zcv ?_)|((with_reducible (show CallK _ 194 _ _ _ _ _));have hx:=MkS.of (l:=l) (m:=m) hS zr zr zr;refine zco 194 (mput_spec (m:=m) hx (by unfold bdM;refine ⟨?_,?_,?_,?_⟩<;>first|omega|(simp;omega))) ?_;clear hx;rintro vb wb ⟨rfl,fv2,rv2,hS⟩;simp only [Mk.put_fl,Mk.put_rc,Mk.put_bg,Mk.put_ct,Mk.put_wd] at hS)|(refine G.cn ?_ ?_<;>intro hc<;>try exact zxf)))<;>(try clear fct)
 all_goals
  refine rM ?_
  exact ⟨rfl,m.put,_,_,Sep.sub hS zv⟩
theorem gaF4 (hM:MkS w0 w g l m M) (hb:bdM 900000000 m) (c2:¬ l.N≤((m.rc++[m.fl]).length:Int)) (hU:l.U=true) (hct:(0:Int) < m.ct) (hw:¬ ((m.rc++[m.fl]).length:Int)=m.wd):Ret Tryz.prog 172 #[.pointer (some ⟨g,0,none⟩),.agg #[.bool false,.bool false,.bool true,.bool false,.bool er,U ec.toNat]] w fun res w'=>GRes w0 w' g l M res (.ok m.put):=by
 refine En 106 c172 Tryz.func172 ?_
 obtain ⟨fv,rv,hS⟩:=hM
 obtain ⟨b1,b2,b3,b4⟩:=hb
 (have fct:=@hU;repeat' (first|(refine gO ?_;intro K hK)|(refine kP ?_;clear hK K)|(refine hK _ _ ?_ ?_<;>clear hK K)|(intro wd hxd;have hS:=Sep.xx hxd)|refine sA ?_|(refine bM ?_ ?_<;>intro hb hc<;>first|exact zxf|(simp only [hb];clear hb))|((first|refine zalc ?_|refine zbsl ?_|((with_reducible refine gBox ?_);refine zbox ?_));intro gb wb hS)|((with_reducible refine gSt ?_);refine zs2 ?_;intro wb hS)|(refine zcv ?_)|((with_reducible (show CallK _ 194 _ _ _ _ _));have hx:=MkS.of (l:=l) (m:=m) hS zr zr zr;refine zco 194 (mput_spec (m:=m) hx (by unfold bdM;refine ⟨?_,?_,?_,?_⟩<;>first|omega|(simp;omega))) ?_;clear hx;rintro vb wb ⟨rfl,fv2,rv2,hS⟩;simp only [Mk.put_fl,Mk.put_rc,Mk.put_bg,Mk.put_ct,Mk.put_wd] at hS)|(refine G.cn ?_ ?_<;>intro hc<;>try exact zxf)))<;>(try clear fct)
 all_goals
  refine rM ?_
  exact ⟨rfl,_,_,Sep.sub hS zv⟩
theorem gaBF0 (hM:MkS w0 w g l m M) (hb:bdM 900000000 m) (c1:¬ l.R≤m.bg) (c2:l.N≤((m.rc++[m.fl]).length:Int)):Ret Tryz.prog 172 #[.pointer (some ⟨g,0,none⟩),.agg #[.bool true,.bool false,.bool true,.bool false,.bool er,U ec.toNat]] w fun res w'=>GRes w0 w' g l M res (.error 8):=by
 refine En 106 c172 Tryz.func172 ?_
 obtain ⟨fv,rv,hS⟩:=hM
 obtain ⟨b1,b2,b3,b4⟩:=hb
 repeat' (first|(refine gO ?_;intro K hK)|(refine kP ?_;clear hK K)|(refine hK _ _ ?_ ?_<;>clear hK K)|(intro wd hxd;have hS:=Sep.xx hxd)|refine sA ?_|(refine bM ?_ ?_<;>intro hb hc<;>first|exact zxf|(simp only [hb];clear hb))|((first|refine zalc ?_|refine zbsl ?_|((with_reducible refine gBox ?_);refine zbox ?_));intro gb wb hS)|((with_reducible refine gSt ?_);refine zs2 ?_;intro wb hS)|(refine zcv ?_)|((with_reducible (show CallK _ 194 _ _ _ _ _));have hx:=MkS.of (l:=l) (m:=({ m with bg:=m.bg+1 }:Mk)) hS zr zr zr;refine zco 194 (mput_spec (m:=({ m with bg:=m.bg+1 }:Mk)) hx (by unfold bdM;refine ⟨?_,?_,?_,?_⟩<;>first|omega|(simp;omega))) ?_;clear hx;rintro vb wb ⟨rfl,fv2,rv2,hS⟩;simp only [Mk.put_fl,Mk.put_rc,Mk.put_bg,Mk.put_ct,Mk.put_wd] at hS)|(refine G.cn ?_ ?_<;>intro hc<;>try exact zxf))
 all_goals
  refine rM ?_
  exact ⟨rfl,({ m with bg:=m.bg+1 }:Mk).put,_,_,Sep.sub hS zv⟩
theorem gaBF1 (hM:MkS w0 w g l m M) (hb:bdM 900000000 m) (c1:¬ l.R≤m.bg) (c2:¬ l.N≤((m.rc++[m.fl]).length:Int)) (hU:l.U=false):Ret Tryz.prog 172 #[.pointer (some ⟨g,0,none⟩),.agg #[.bool true,.bool false,.bool true,.bool false,.bool er,U ec.toNat]] w fun res w'=>GRes w0 w' g l M res (.ok ({ m with bg:=m.bg+1 }:Mk).put):=by
 refine En 106 c172 Tryz.func172 ?_
 obtain ⟨fv,rv,hS⟩:=hM
 obtain ⟨b1,b2,b3,b4⟩:=hb
 (have fct:=@hU;repeat' (first|(refine gO ?_;intro K hK)|(refine kP ?_;clear hK K)|(refine hK _ _ ?_ ?_<;>clear hK K)|(intro wd hxd;have hS:=Sep.xx hxd)|refine sA ?_|(refine bM ?_ ?_<;>intro hb hc<;>first|exact zxf|(simp only [hb];clear hb))|((first|refine zalc ?_|refine zbsl ?_|((with_reducible refine gBox ?_);refine zbox ?_));intro gb wb hS)|((with_reducible refine gSt ?_);refine zs2 ?_;intro wb hS)|(refine zcv ?_)|((with_reducible (show CallK _ 194 _ _ _ _ _));have hx:=MkS.of (l:=l) (m:=({ m with bg:=m.bg+1 }:Mk)) hS zr zr zr;refine zco 194 (mput_spec (m:=({ m with bg:=m.bg+1 }:Mk)) hx (by unfold bdM;refine ⟨?_,?_,?_,?_⟩<;>first|omega|(simp;omega))) ?_;clear hx;rintro vb wb ⟨rfl,fv2,rv2,hS⟩;simp only [Mk.put_fl,Mk.put_rc,Mk.put_bg,Mk.put_ct,Mk.put_wd] at hS)|(refine G.cn ?_ ?_<;>intro hc<;>try exact zxf)))<;>(try clear fct)
 all_goals
  refine rM ?_
  exact ⟨rfl,_,_,Sep.sub hS zv⟩
theorem gaBF2 (hM:MkS w0 w g l m M) (hb:bdM 900000000 m) (c1:¬ l.R≤m.bg) (c2:¬ l.N≤((m.rc++[m.fl]).length:Int)) (hU:l.U=true) (hct:¬ (0:Int) < m.ct):Ret Tryz.prog 172 #[.pointer (some ⟨g,0,none⟩),.agg #[.bool true,.bool false,.bool true,.bool false,.bool er,U ec.toNat]] w fun res w'=>GRes w0 w' g l M res (.ok ({ m with bg:=m.bg+1 }:Mk).put):=by
 refine En 106 c172 Tryz.func172 ?_
 obtain ⟨fv,rv,hS⟩:=hM
 obtain ⟨b1,b2,b3,b4⟩:=hb
 (have fct:=@hU;repeat' (first|(refine gO ?_;intro K hK)|(refine kP ?_;clear hK K)|(refine hK _ _ ?_ ?_<;>clear hK K)|(intro wd hxd;have hS:=Sep.xx hxd)|refine sA ?_|(refine bM ?_ ?_<;>intro hb hc<;>first|exact zxf|(simp only [hb];clear hb))|((first|refine zalc ?_|refine zbsl ?_|((with_reducible refine gBox ?_);refine zbox ?_));intro gb wb hS)|((with_reducible refine gSt ?_);refine zs2 ?_;intro wb hS)|(refine zcv ?_)|((with_reducible (show CallK _ 194 _ _ _ _ _));have hx:=MkS.of (l:=l) (m:=({ m with bg:=m.bg+1 }:Mk)) hS zr zr zr;refine zco 194 (mput_spec (m:=({ m with bg:=m.bg+1 }:Mk)) hx (by unfold bdM;refine ⟨?_,?_,?_,?_⟩<;>first|omega|(simp;omega))) ?_;clear hx;rintro vb wb ⟨rfl,fv2,rv2,hS⟩;simp only [Mk.put_fl,Mk.put_rc,Mk.put_bg,Mk.put_ct,Mk.put_wd] at hS)|(refine G.cn ?_ ?_<;>intro hc<;>try exact zxf)))<;>(try clear fct)
 all_goals
  refine rM ?_
  exact ⟨rfl,_,_,Sep.sub hS zv⟩
theorem gaBF3 (hM:MkS w0 w g l m M) (hb:bdM 900000000 m) (c1:¬ l.R≤m.bg) (c2:¬ l.N≤((m.rc++[m.fl]).length:Int)) (hU:l.U=true) (hct:(0:Int) < m.ct) (hw:((m.rc++[m.fl]).length:Int)=m.wd):Ret Tryz.prog 172 #[.pointer (some ⟨g,0,none⟩),.agg #[.bool true,.bool false,.bool true,.bool false,.bool er,U ec.toNat]] w fun res w'=>GRes w0 w' g l M res (.error 10):=by
 refine En 106 c172 Tryz.func172 ?_
 obtain ⟨fv,rv,hS⟩:=hM
 obtain ⟨b1,b2,b3,b4⟩:=hb
 (have fct:=@hU;repeat' (first|(refine gO ?_;intro K hK)|(refine kP ?_;clear hK K)|(refine hK _ _ ?_ ?_<;>clear hK K)|(intro wd hxd;have hS:=Sep.xx hxd)|refine sA ?_|(refine bM ?_ ?_<;>intro hb hc<;>first|exact zxf|(simp only [hb];clear hb))|((first|refine zalc ?_|refine zbsl ?_|((with_reducible refine gBox ?_);refine zbox ?_));intro gb wb hS)|((with_reducible refine gSt ?_);refine zs2 ?_;intro wb hS)|(refine zcv ?_)|((with_reducible (show CallK _ 194 _ _ _ _ _));have hx:=MkS.of (l:=l) (m:=({ m with bg:=m.bg+1 }:Mk)) hS zr zr zr;refine zco 194 (mput_spec (m:=({ m with bg:=m.bg+1 }:Mk)) hx (by unfold bdM;refine ⟨?_,?_,?_,?_⟩<;>first|omega|(simp;omega))) ?_;clear hx;rintro vb wb ⟨rfl,fv2,rv2,hS⟩;simp only [Mk.put_fl,Mk.put_rc,Mk.put_bg,Mk.put_ct,Mk.put_wd] at hS)|(refine G.cn ?_ ?_<;>intro hc<;>try exact zxf)))<;>(try clear fct)
 all_goals
  refine rM ?_
  exact ⟨rfl,({ m with bg:=m.bg+1 }:Mk).put,_,_,Sep.sub hS zv⟩
theorem gaBF4 (hM:MkS w0 w g l m M) (hb:bdM 900000000 m) (c1:¬ l.R≤m.bg) (c2:¬ l.N≤((m.rc++[m.fl]).length:Int)) (hU:l.U=true) (hct:(0:Int) < m.ct) (hw:¬ ((m.rc++[m.fl]).length:Int)=m.wd):Ret Tryz.prog 172 #[.pointer (some ⟨g,0,none⟩),.agg #[.bool true,.bool false,.bool true,.bool false,.bool er,U ec.toNat]] w fun res w'=>GRes w0 w' g l M res (.ok ({ m with bg:=m.bg+1 }:Mk).put):=by
 refine En 106 c172 Tryz.func172 ?_
 obtain ⟨fv,rv,hS⟩:=hM
 obtain ⟨b1,b2,b3,b4⟩:=hb
 (have fct:=@hU;repeat' (first|(refine gO ?_;intro K hK)|(refine kP ?_;clear hK K)|(refine hK _ _ ?_ ?_<;>clear hK K)|(intro wd hxd;have hS:=Sep.xx hxd)|refine sA ?_|(refine bM ?_ ?_<;>intro hb hc<;>first|exact zxf|(simp only [hb];clear hb))|((first|refine zalc ?_|refine zbsl ?_|((with_reducible refine gBox ?_);refine zbox ?_));intro gb wb hS)|((with_reducible refine gSt ?_);refine zs2 ?_;intro wb hS)|(refine zcv ?_)|((with_reducible (show CallK _ 194 _ _ _ _ _));have hx:=MkS.of (l:=l) (m:=({ m with bg:=m.bg+1 }:Mk)) hS zr zr zr;refine zco 194 (mput_spec (m:=({ m with bg:=m.bg+1 }:Mk)) hx (by unfold bdM;refine ⟨?_,?_,?_,?_⟩<;>first|omega|(simp;omega))) ?_;clear hx;rintro vb wb ⟨rfl,fv2,rv2,hS⟩;simp only [Mk.put_fl,Mk.put_rc,Mk.put_bg,Mk.put_ct,Mk.put_wd] at hS)|(refine G.cn ?_ ?_<;>intro hc<;>try exact zxf)))<;>(try clear fct)
 all_goals
  refine rM ?_
  exact ⟨rfl,_,_,Sep.sub hS zv⟩
theorem gaL1 (hM:MkS w0 w g l m M) (hb:bdM 900000000 m) (hU:l.U=false):Ret Tryz.prog 172 #[.pointer (some ⟨g,0,none⟩),.agg #[.bool false,.bool false,.bool false,.bool true,.bool er,U ec.toNat]] w fun res w'=>GRes w0 w' g l M res (.ok m.put):=by
 refine En 106 c172 Tryz.func172 ?_
 obtain ⟨fv,rv,hS⟩:=hM
 obtain ⟨b1,b2,b3,b4⟩:=hb
 (have fct:=@hU;repeat' (first|(refine gO ?_;intro K hK)|(refine kP ?_;clear hK K)|(refine hK _ _ ?_ ?_<;>clear hK K)|(intro wd hxd;have hS:=Sep.xx hxd)|refine sA ?_|(refine bM ?_ ?_<;>intro hb hc<;>first|exact zxf|(simp only [hb];clear hb))|((first|refine zalc ?_|refine zbsl ?_|((with_reducible refine gBox ?_);refine zbox ?_));intro gb wb hS)|((with_reducible refine gSt ?_);refine zs2 ?_;intro wb hS)|(refine zcv ?_)|((with_reducible (show CallK _ 194 _ _ _ _ _));have hx:=MkS.of (l:=l) (m:=m) hS zr zr zr;refine zco 194 (mput_spec (m:=m) hx (by unfold bdM;refine ⟨?_,?_,?_,?_⟩<;>first|omega|(simp;omega))) ?_;clear hx;rintro vb wb ⟨rfl,fv2,rv2,hS⟩;simp only [Mk.put_fl,Mk.put_rc,Mk.put_bg,Mk.put_ct,Mk.put_wd] at hS)|(refine G.cn ?_ ?_<;>intro hc<;>try exact zxf)))<;>(try clear fct)
 all_goals
  refine rM ?_
  exact ⟨rfl,_,_,Sep.sub hS zv⟩
theorem gaL2 (hM:MkS w0 w g l m M) (hb:bdM 900000000 m) (hU:l.U=true) (hct:¬ (0:Int) < m.ct):Ret Tryz.prog 172 #[.pointer (some ⟨g,0,none⟩),.agg #[.bool false,.bool false,.bool false,.bool true,.bool er,U ec.toNat]] w fun res w'=>GRes w0 w' g l M res (.ok m.put):=by
 refine En 106 c172 Tryz.func172 ?_
 obtain ⟨fv,rv,hS⟩:=hM
 obtain ⟨b1,b2,b3,b4⟩:=hb
 (have fct:=@hU;repeat' (first|(refine gO ?_;intro K hK)|(refine kP ?_;clear hK K)|(refine hK _ _ ?_ ?_<;>clear hK K)|(intro wd hxd;have hS:=Sep.xx hxd)|refine sA ?_|(refine bM ?_ ?_<;>intro hb hc<;>first|exact zxf|(simp only [hb];clear hb))|((first|refine zalc ?_|refine zbsl ?_|((with_reducible refine gBox ?_);refine zbox ?_));intro gb wb hS)|((with_reducible refine gSt ?_);refine zs2 ?_;intro wb hS)|(refine zcv ?_)|((with_reducible (show CallK _ 194 _ _ _ _ _));have hx:=MkS.of (l:=l) (m:=m) hS zr zr zr;refine zco 194 (mput_spec (m:=m) hx (by unfold bdM;refine ⟨?_,?_,?_,?_⟩<;>first|omega|(simp;omega))) ?_;clear hx;rintro vb wb ⟨rfl,fv2,rv2,hS⟩;simp only [Mk.put_fl,Mk.put_rc,Mk.put_bg,Mk.put_ct,Mk.put_wd] at hS)|(refine G.cn ?_ ?_<;>intro hc<;>try exact zxf)))<;>(try clear fct)
 all_goals
  refine rM ?_
  exact ⟨rfl,_,_,Sep.sub hS zv⟩
theorem gaL3 (hM:MkS w0 w g l m M) (hb:bdM 900000000 m) (hU:l.U=true) (hct:(0:Int) < m.ct) (hw:¬ ((m.rc++[m.fl]).length:Int)=m.wd):Ret Tryz.prog 172 #[.pointer (some ⟨g,0,none⟩),.agg #[.bool false,.bool false,.bool false,.bool true,.bool er,U ec.toNat]] w fun res w'=>GRes w0 w' g l M res (.error 10):=by
 refine En 106 c172 Tryz.func172 ?_
 obtain ⟨fv,rv,hS⟩:=hM
 obtain ⟨b1,b2,b3,b4⟩:=hb
 (have fct:=@hU;repeat' (first|(refine gO ?_;intro K hK)|(refine kP ?_;clear hK K)|(refine hK _ _ ?_ ?_<;>clear hK K)|(intro wd hxd;have hS:=Sep.xx hxd)|refine sA ?_|(refine bM ?_ ?_<;>intro hb hc<;>first|exact zxf|(simp only [hb];clear hb))|((first|refine zalc ?_|refine zbsl ?_|((with_reducible refine gBox ?_);refine zbox ?_));intro gb wb hS)|((with_reducible refine gSt ?_);refine zs2 ?_;intro wb hS)|(refine zcv ?_)|((with_reducible (show CallK _ 194 _ _ _ _ _));have hx:=MkS.of (l:=l) (m:=m) hS zr zr zr;refine zco 194 (mput_spec (m:=m) hx (by unfold bdM;refine ⟨?_,?_,?_,?_⟩<;>first|omega|(simp;omega))) ?_;clear hx;rintro vb wb ⟨rfl,fv2,rv2,hS⟩;simp only [Mk.put_fl,Mk.put_rc,Mk.put_bg,Mk.put_ct,Mk.put_wd] at hS)|(refine G.cn ?_ ?_<;>intro hc<;>try exact zxf)))<;>(try clear fct)
 all_goals
  refine rM ?_
  exact ⟨rfl,m.put,_,_,Sep.sub hS zv⟩
theorem gaL4 (hM:MkS w0 w g l m M) (hb:bdM 900000000 m) (hU:l.U=true) (hct:(0:Int) < m.ct) (hw:((m.rc++[m.fl]).length:Int)=m.wd):Ret Tryz.prog 172 #[.pointer (some ⟨g,0,none⟩),.agg #[.bool false,.bool false,.bool false,.bool true,.bool er,U ec.toNat]] w fun res w'=>GRes w0 w' g l M res (.ok m.put):=by
 refine En 106 c172 Tryz.func172 ?_
 obtain ⟨fv,rv,hS⟩:=hM
 obtain ⟨b1,b2,b3,b4⟩:=hb
 (have fct:=@hU;repeat' (first|(refine gO ?_;intro K hK)|(refine kP ?_;clear hK K)|(refine hK _ _ ?_ ?_<;>clear hK K)|(intro wd hxd;have hS:=Sep.xx hxd)|refine sA ?_|(refine bM ?_ ?_<;>intro hb hc<;>first|exact zxf|(simp only [hb];clear hb))|((first|refine zalc ?_|refine zbsl ?_|((with_reducible refine gBox ?_);refine zbox ?_));intro gb wb hS)|((with_reducible refine gSt ?_);refine zs2 ?_;intro wb hS)|(refine zcv ?_)|((with_reducible (show CallK _ 194 _ _ _ _ _));have hx:=MkS.of (l:=l) (m:=m) hS zr zr zr;refine zco 194 (mput_spec (m:=m) hx (by unfold bdM;refine ⟨?_,?_,?_,?_⟩<;>first|omega|(simp;omega))) ?_;clear hx;rintro vb wb ⟨rfl,fv2,rv2,hS⟩;simp only [Mk.put_fl,Mk.put_rc,Mk.put_bg,Mk.put_ct,Mk.put_wd] at hS)|(refine G.cn ?_ ?_<;>intro hc<;>try exact zxf)))<;>(try clear fct)
 all_goals
  refine rM ?_
  exact ⟨rfl,_,_,Sep.sub hS zv⟩
end
theorem gather_spec {g:Nat} {l:Lm} {m:Mk} {e:Ev} {M:List Chk} {w w0:World} (hM:MkS w0 w g l m M) (hb:bdM 900000000 m) (he:okEv e) :
 Ret Tryz.prog 172 #[.pointer (some ⟨g,0,none⟩),(.agg #[.bool e.b,.bool e.a,.bool e.f,.bool e.l,.bool e.r,U e.c.toNat])] w fun res w'=>GRes w0 w' g l M res (gather l m e):=by
 obtain ⟨eb,ea,ef,el,er,ec⟩:=e
 simp only [okEv] at he
 rcases he with ⟨rfl,rfl,rfl,rfl⟩|⟨rfl,rfl,rfl,rfl⟩|⟨rfl,rfl,rfl,rfl⟩|⟨rfl,rfl,rfl,rfl⟩|⟨rfl,rfl,rfl,rfl⟩|⟨rfl,rfl,rfl,rfl⟩|⟨rfl,rfl,rfl,rfl⟩
 ·rw [show gather l m ⟨false,false,false,false,er,ec⟩=.ok m from rfl];exact ga0 hM hb
 ·by_cases c1:l.R≤m.bg
  ·rw [show gather l m ⟨true,false,false,false,er,ec⟩=.error 9 by simp [gather,gBegin,c1]];exact gaB0 hM hb c1 _ _
  ·rw [show gather l m ⟨true,false,false,false,er,ec⟩=.ok { m with bg:=m.bg+1 } by simp [gather,gBegin,gAdd,gField,gLine,c1]];exact gaB1 hM hb c1
 ·by_cases c1:l.R≤m.bg
  ·rw [show gather l m ⟨true,false,true,false,er,ec⟩=.error 9 by simp [gather,gBegin,c1]];exact gaB0 hM hb c1 _ _
  ·have hg:gather l m ⟨true,false,true,false,er,ec⟩=gField l true { m with bg:=m.bg+1 }:=by
    simp only [gather,gBegin,gAdd,c1,if_true,if_false,Bool.false_eq_true]
    cases gField l true { m with bg:=m.bg+1 }<;>rfl
   rw [hg]
   unfold gField
   rw [if_pos rfl]
   by_cases c2:l.N≤((m.rc++[m.fl]).length:Int)
   ·rw [if_pos (show l.N≤(({ m with bg:=m.bg+1 }:Mk).put.rc.length:Int) from c2)];exact gaBF0 hM hb c1 c2
   ·rw [if_neg (show ¬ l.N≤(({ m with bg:=m.bg+1 }:Mk).put.rc.length:Int) from c2)]
    cases hU:l.U
    ·rw [if_neg (by simp [Mk.strict,hU])];exact gaBF1 hM hb c1 c2 hU
    ·by_cases hct:(0:Int) < m.ct
     ·by_cases hw:((m.rc++[m.fl]).length:Int)=m.wd
      ·rw [if_pos ⟨by simp [Mk.strict,hU];omega,by simp only [Mk.put];omega⟩];exact gaBF3 hM hb c1 c2 hU hct hw
      ·rw [if_neg (by rintro ⟨_,h⟩;simp only [Mk.put] at h;omega)];exact gaBF4 hM hb c1 c2 hU hct hw
     ·rw [if_neg (by rintro ⟨h,_⟩;simp [Mk.strict,hU] at h;omega)];exact gaBF2 hM hb c1 c2 hU hct
 ·by_cases c1:l.R≤m.bg
  ·rw [show gather l m ⟨true,true,false,false,er,ec⟩=.error 9 by simp [gather,gBegin,c1]];exact gaB0 hM hb c1 _ _
  ·by_cases c2:l.F≤m.fl.length
   ·rw [show gather l m ⟨true,true,false,false,er,ec⟩=.error 7 by simp [gather,gBegin,gAdd,c1,c2]];exact gaBA0 hM hb c1 c2
   ·rw [show gather l m ⟨true,true,false,false,er,ec⟩=.ok { m with bg:=m.bg+1,fl:=m.fl++[ec] } by simp [gather,gBegin,gAdd,gField,gLine,c1,c2]];exact gaBA1 hM hb c1 c2
 ·by_cases c2:l.F≤m.fl.length
  ·rw [show gather l m ⟨false,true,false,false,er,ec⟩=.error 7 by simp [gather,gBegin,gAdd,c2]];exact gaA0 hM hb c2
  ·rw [show gather l m ⟨false,true,false,false,er,ec⟩=.ok { m with fl:=m.fl++[ec] } by simp [gather,gBegin,gAdd,gField,gLine,c2]];exact gaA1 hM hb c2
 ·have hg:gather l m ⟨false,false,true,false,er,ec⟩=gField l true m:=by
   simp only [gather,gBegin,gAdd,if_false,Bool.false_eq_true]
   cases gField l true m<;>rfl
  rw [hg]
  unfold gField
  rw [if_pos rfl]
  by_cases c2:l.N≤((m.rc++[m.fl]).length:Int)
  ·rw [if_pos (show l.N≤(m.put.rc.length:Int) from c2)];exact gaF0 hM hb c2
  ·rw [if_neg (show ¬ l.N≤(m.put.rc.length:Int) from c2)]
   cases hU:l.U
   ·rw [if_neg (by simp [Mk.strict,hU])];exact gaF1 hM hb c2 hU
   ·by_cases hct:(0:Int) < m.ct
    ·by_cases hw:((m.rc++[m.fl]).length:Int)=m.wd
     ·rw [if_pos ⟨by simp [Mk.strict,hU];omega,by simp only [Mk.put];omega⟩];exact gaF3 hM hb c2 hU hct hw
     ·rw [if_neg (by rintro ⟨_,h⟩;simp only [Mk.put] at h;omega)];exact gaF4 hM hb c2 hU hct hw
    ·rw [if_neg (by rintro ⟨h,_⟩;simp [Mk.strict,hU] at h;omega)];exact gaF2 hM hb c2 hU hct
 ·have hg:gather l m ⟨false,false,false,true,er,ec⟩=gLine l true m:=rfl
  rw [hg]
  unfold gLine
  rw [if_pos rfl]
  cases hU:l.U
  ·rw [if_neg (by simp [Mk.strict,hU])];exact gaL1 hM hb hU
  ·by_cases hct:(0:Int) < m.ct
   ·by_cases hw:((m.rc++[m.fl]).length:Int)=m.wd
    ·rw [if_neg (by rintro ⟨_,h⟩;simp only [Mk.put] at h;omega)];exact gaL4 hM hb hU hct hw
    ·rw [if_pos ⟨by simp [Mk.strict,hU];omega,by simp only [Mk.put];omega⟩];exact gaL3 hM hb hU hct hw
   ·rw [if_neg (by rintro ⟨h,_⟩;simp [Mk.strict,hU] at h;omega)];exact gaL2 hM hb hU hct
def TRes (w0 w':World) (g:Nat) (l:Lm) (M:List Chk) (res:Value):Except Int (Mk×Option (List Str))→Prop
 | .error k=>res=(.tuple #[.slice none 0 0,.bool false,I k])∧Sep w0 w' M
 | .ok (m',none)=>res=(.tuple #[.slice none 0 0,.bool false,I 0])∧MkS w0 w' g l m' M
 | .ok (m',some r)=>∃ rv,res=.tuple #[rv,.bool true,I 0]∧MkS w0 w' g l m' (accC rv 9 eS r :: M)
theorem out_0 {m:Mk} (h:(m.ct:Int)=0):m.out=⟨m.fl,[],m.bg,m.ct+1,m.rc.length⟩:=by
 have:m.ct=0:=by omega
 simp [Mk.out,this]
theorem out_1 {m:Mk} (h:¬ (m.ct:Int)=0):m.out=⟨m.fl,[],m.bg,m.ct+1,m.wd⟩:=by
 have:¬ m.ct=0:=by omega
 simp [Mk.out,this]
theorem bd_mono {n k:Nat} {m:Mk} (h:bdM n m) (hk:n≤k):bdM k m:=⟨by have:=h.1;omega,by have:=h.2.1;omega,by have:=h.2.2.1;omega,by have:=h.2.2.2;omega⟩
theorem gather_bd {n:Nat} {l:Lm} {m m':Mk} {e:Ev} (h:bdM n m) (hg:gather l m e=.ok m'):bdM (n+2) m':=by
 unfold gather at hg
 split at hg
 ·simp at hg
 ·rename_i m1 h1
  have g1:m1.fl.length≤n∧m1.rc.length≤n∧m1.bg≤n+1∧m1.ct≤n:=by
   obtain ⟨b1,b2,b3,b4⟩:=h
   unfold gBegin at h1
   split at h1
   ·split at h1
    ·simp at h1
    ·injection h1 with h1;subst h1;exact ⟨b1,b2,by simp;omega,b4⟩
   ·injection h1 with h1;subst h1;exact ⟨b1,b2,by omega,b4⟩
  split at hg
  ·simp at hg
  ·rename_i m2 h2
   have g2:m2.fl.length≤n+1∧m2.rc.length≤n∧m2.bg≤n+1∧m2.ct≤n:=by
    obtain ⟨b1,b2,b3,b4⟩:=g1
    unfold gAdd at h2
    split at h2
    ·split at h2
     ·simp at h2
     ·injection h2 with h2;subst h2;exact ⟨by simp;omega,b2,b3,b4⟩
    ·injection h2 with h2;subst h2;exact ⟨by omega,b2,b3,b4⟩
   split at hg
   ·simp at hg
   ·rename_i m3 h3
    have g3:m3.fl.length≤n+1∧m3.rc.length≤n+1∧m3.bg≤n+1∧m3.ct≤n:=by
     obtain ⟨b1,b2,b3,b4⟩:=g2
     unfold gField at h3
     split at h3
     ·split at h3
      ·simp at h3
      ·split at h3
       ·simp at h3
       ·injection h3 with h3;subst h3;exact ⟨by simp [Mk.put],by simp [Mk.put];omega,b3,b4⟩
     ·injection h3 with h3;subst h3;exact ⟨b1,by omega,b3,b4⟩
    obtain ⟨b1,b2,b3,b4⟩:=g3
    unfold gLine at hg
    split at hg
    ·split at hg
     ·simp at hg
     ·injection hg with hg;subst hg;exact ⟨by simp [Mk.put],by simp [Mk.put];omega,by simp only [Mk.put];omega,by simp only [Mk.put];omega⟩
    ·injection hg with hg;subst hg;exact ⟨by omega,by omega,by omega,by omega⟩
theorem take_bd {n:Nat} {l:Lm} {m:Mk} {e:Ev} {x:Mk×Option (List Str)} (h:bdM n m) (hg:takeM l m e=.ok x):bdM (n+3) x.1:=by
 unfold takeM at hg
 split at hg
 ·simp at hg
 ·rename_i m' h1
  obtain ⟨b1,b2,b3,b4⟩:=gather_bd h h1
  split at hg
  ·injection hg with hg;subst hg;exact ⟨by simp only [Mk.out];omega,by simp [Mk.out],by simp only [Mk.out];omega,by simp only [Mk.out];omega⟩
  ·injection hg with hg;subst hg;exact ⟨by simp only;omega,by simp only;omega,by simp only;omega,by simp only;omega⟩
def c131:MC:=(Z (yr [qq 3 (.raw (.box 197 (Y 1)) 0),qq 4 (.mv (yc (.slice none 0 0))),qq 5 (.mv (kb false)),qq 6 (.mv (ki 0))]) (Z (Z (yr [qm 8 0,qq 9 (.nck (Y 8)),qq 10 (.fad 9 (Y 9)),qq 11 (.ld none (Y 10)),qq 12 (yb .eql (Y 11) (ki 0))]) (yd (Y 12) (yr [qm 13 0,qm 14 0,qq 15 (.ld (.some 6) (Y 3)),qq 16 (yl 172 [(Y 14),(Y 15)]),qq 17 (.nck (Y 13)),qq 18 (.fad 9 (Y 17)),qn (.st 1 (Y 18) (Y 16))]) yk)) (Z (Z (yr [qm 19 0,qq 20 (.nck (Y 19)),qq 21 (.fad 9 (Y 20)),qq 22 (.ld none (Y 21)),qq 23 (yb .neq (Y 22) (ki 0))]) (yd (Y 23) (Z (.drg [qm 24 0,qq 25 (.nck (Y 24)),qq 26 (.fad 9 (Y 25)),qq 27 (.ld none (Y 26)),qq 4 (.mv (yc (.slice none 0 0))),qq 5 (.mv (kb false)),qm 6 27] none) .ret) yk)) (Z (Z (yr [qq 28 (.fad 4 (Y 3)),qq 29 (.ld none (Y 28)),qq 30 (.un .not (Y 29))]) (yd (Y 30) (Z (yr [qq 4 (.mv (yc (.slice none 0 0))),qq 5 (.mv (kb false)),qq 6 (.mv (ki 0))]) .ret) yk)) (Z (yr [qm 31 0,qq 32 (.nck (Y 31)),qq 33 (.fad 5 (Y 32)),qq 34 (.ld none (Y 33)),qm 7 34]) (Z (yr [qm 35 0,qq 36 (.nck (Y 35)),qq 37 (.fad 5 (Y 36)),qn (.st 1 (Y 37) (yc (.slice none 0 0)))]) (Z (Z (yr [qm 38 0,qq 39 (.nck (Y 38)),qq 40 (.fad 7 (Y 39)),qq 41 (.ld none (Y 40)),qq 42 (yb .eql (Y 41) (ki 0))]) (yd (Y 42) (yr [qm 43 0,qm 44 7,qq 45 (.len (Y 44)),qq 46 (.nck (Y 43)),qq 47 (.fad 8 (Y 46)),qn (.st 1 (Y 47) (Y 45))]) yk)) (Z (yr [qm 48 0,qq 49 (.nck (Y 48)),qq 50 (.fad 7 (Y 49)),qq 51 (.ld none (Y 50)),qq 52 (yb .add (Y 51) (ki 1)),qq 53 (.nck (Y 48)),qq 54 (.fad 7 (Y 53)),qn (.st 1 (Y 54) (Y 52))]) (Z (yr [qm 55 7,qm 4 55,qq 5 (.mv (kb true)),qq 6 (.mv (ki 0))]) .ret)))))))))
set_option maxHeartbeats 1000000 in
theorem mtake_spec {g:Nat} {l:Lm} {m:Mk} {e:Ev} {M:List Chk} {w w0:World} (hM:MkS w0 w g l m M) (hb:bdM 900000000 m) (he:okEv e) :
 Ret Tryz.prog 131 #[.pointer (some ⟨g,0,none⟩),(.agg #[.bool e.b,.bool e.a,.bool e.f,.bool e.l,.bool e.r,U e.c.toNat])] w fun res w'=>TRes w0 w' g l M res (takeM l m e):=by
 refine En 56 c131 Tryz.func131 ?_
 obtain ⟨fv,rv,hS⟩:=hM
 unfold takeM
 obtain ⟨eb,ea,ef,el,er,ec⟩:=e
 cases hg:gather l m ⟨eb,ea,ef,el,er,ec⟩ with
 | error k =>
   have hk:=gather_err hg
   repeat' (first|(refine gO ?_;intro K hK)|(refine kP ?_;clear hK K)|(intro wd hxd;have hS:=Sep.xx hxd)|refine sA ?_|(((with_reducible refine gBox ?_);refine zbox ?_);intro gb wb hS)|((with_reducible refine gSt ?_);refine zs2 ?_;intro wb hS)|((with_reducible (show CallK _ 172 _ _ _ _ _));have hx:=MkS.of (l:=l) (m:=m) hS zr zr zr;refine zco 172 (gather_spec (e:=⟨eb,ea,ef,el,_,ec⟩) hx hb he) ?_;clear hx;intro vb wb hG;rw [hg] at hG;obtain ⟨rfl,m2,fv2,rv2,hS⟩:=hG)|(refine G.cn ?_ ?_<;>intro hc<;>try exact zxf))
   all_goals
    refine rM ?_
    exact ⟨rfl,Sep.sub hS zv⟩
 | ok m2 =>
   obtain ⟨b1,b2,b3,b4⟩:=gather_bd hb hg
   cases er
   ·simp only [Bool.false_eq_true,if_false]
    repeat' (first|(refine gO ?_;intro K hK)|(refine kP ?_;clear hK K)|(intro wd hxd;have hS:=Sep.xx hxd)|refine sA ?_|(((with_reducible refine gBox ?_);refine zbox ?_);intro gb wb hS)|((with_reducible refine gSt ?_);refine zs2 ?_;intro wb hS)|((with_reducible (show CallK _ 172 _ _ _ _ _));have hx:=MkS.of (l:=l) (m:=m) hS zr zr zr;refine zco 172 (gather_spec (e:=⟨eb,ea,ef,el,_,ec⟩) hx hb he) ?_;clear hx;intro vb wb hG;rw [hg] at hG;obtain ⟨rfl,fv2,rv2,hS⟩:=hG)|(refine G.cn ?_ ?_<;>intro hc<;>try exact zxf))
    all_goals
     refine rM ?_
     exact ⟨rfl,_,_,Sep.sub hS zv⟩
   ·simp only [if_true]
    repeat' (first|(refine gO ?_;intro K hK)|(refine kP ?_;clear hK K)|(intro wd hxd;have hS:=Sep.xx hxd)|refine sA ?_|(((with_reducible refine gBox ?_);refine zbox ?_);intro gb wb hS)|((with_reducible refine gSt ?_);refine zs2 ?_;intro wb hS)|((with_reducible (show CallK _ 172 _ _ _ _ _));have hx:=MkS.of (l:=l) (m:=m) hS zr zr zr;refine zco 172 (gather_spec (e:=⟨eb,ea,ef,el,_,ec⟩) hx hb he) ?_;clear hx;intro vb wb hG;rw [hg] at hG;obtain ⟨rfl,fv2,rv2,hS⟩:=hG)|(refine G.cn ?_ ?_<;>intro hc<;>try exact zxf))
    all_goals
     refine rM ?_
     have hS:=hS.nil 9 eS
     first|rw [out_0 (m:=m2) ‹_›]|rw [out_1 (m:=m2) ‹_›]
     exact ⟨_,rfl,fv2,.slice none 0 0,Sep.sub hS zv⟩
def WkS (w0 w:World) (gw g:Nat) (d:Dl) (l:Lm) (q st:Int) (m:Mk) (M:List Chk):Prop:=∃ fv rv,Sep w0 w (boxC gw 139 [U d.dl,U d.q,I d.e,.pointer (some ⟨g,0,none⟩),I q,I st] :: boxC g 192 [I l.F,I l.N,I l.R,.bool l.U,fv,rv,I m.bg,I m.ct,I m.wd,I 0] :: accC fv 5 eU m.fl :: accC rv 9 eS m.rc :: M)
def stepW (d:Dl) (l:Lm) (q st:Int) (m:Mk) (b:UInt8):Except Int (Int×Int×Mk×Option (List Str)) :=
 if (stepM q b.toNat).2=false then .error 3 else match stepR d l st m b with
  | .error k=>.error k
  | .ok x=>.ok ((stepM q b.toNat).1,x)
theorem wrun_cons (d:Dl) (l:Lm) (q st:Int) (m:Mk) (p:Nat) (b:UInt8) (t:Str):wrun d l q st m p (b :: t)=match stepW d l q st m b with
 | .error k=>⟨[],k,p⟩
 | .ok x=>(wrun d l x.1 x.2.1 x.2.2.1 (p+1) t).pre (oneR x.2.2.2 p):=by
 unfold stepW
 rw [wrun]
 cases (stepM q b.toNat).2
 ·rfl
 ·simp only [Bool.true_eq_false,if_false]
  cases stepR d l st m b<;>rfl
def endW (l:Lm) (q st:Int) (m:Mk):Except Int (Option (List Str)):=if q≠0 then .error 12 else endR l st m
theorem wrun_nil (d:Dl) (l:Lm) (q st:Int) (m:Mk) (p:Nat):wrun d l q st m p []=match endW l q st m with
 | .error k=>⟨[],k,p⟩
 | .ok r=>⟨oneR r p,0,0⟩:=by
 unfold endW
 rw [wrun]
 split
 ·rfl
 ·cases endR l st m<;>rfl
theorem stepW_err {d:Dl} {l:Lm} {q st:Int} {m:Mk} {b:UInt8} {k:Int} (h:stepW d l q st m b=.error k):0 < k:=by
 unfold stepW at h
 split at h
 ·injection h with h;omega
 ·split at h
  ·rename_i h2;injection h with h;subst h;exact step_err h2
  ·simp at h
theorem endW_err {l:Lm} {q st:Int} {m:Mk} {k:Int} (h:endW l q st m=.error k):0 < k:=by
 unfold endW at h
 split at h
 ·injection h with h;omega
 ·exact end_err h
theorem stepW_bd {d:Dl} {l:Lm} {q st:Int} {m:Mk} {b:UInt8} {n:Nat} {x:Int×Int×Mk×Option (List Str)} (hb:bdM n m) (h:stepW d l q st m b=.ok x):bdM (n+3) x.2.2.1:=by
 unfold stepW at h
 split at h
 ·simp at h
 ·split at h
  ·simp at h
  ·rename_i y h2
   injection h with h;subst h
   unfold stepR at h2
   split at h2
   ·simp at h2
   ·split at h2
    ·simp at h2
    ·rename_i z h3
     injection h2 with h2;subst h2
     exact take_bd hb h3
def SRes (w0 w':World) (gw g:Nat) (d:Dl) (l:Lm) (M:List Chk) (res:Value):Except Int (Int×Int×Mk×Option (List Str))→Prop
 | .error k=>res=(.tuple #[.slice none 0 0,.bool false,I k])∧Sep w0 w' M
 | .ok (q',st',m',none)=>res=(.tuple #[.slice none 0 0,.bool false,I 0])∧WkS w0 w' gw g d l q' st' m' M
 | .ok (q',st',m',some r)=>∃ rv,res=.tuple #[rv,.bool true,I 0]∧WkS w0 w' gw g d l q' st' m' (accC rv 9 eS r :: M)
def c88:MC:=(Z (yr [qq 4 (.mv (yc (.slice none 0 0))),qq 5 (.mv (kb false)),qq 6 (.mv (ki 0))]) (Z (yr [qm 13 0,qq 14 (.nck (Y 13)),qq 15 (.fad 4 (Y 14)),qq 16 (.ld none (Y 15)),qm 17 1,qq 18 (yl 129 [(Y 16),(Y 17)]),qm 12 18,qq 19 (.ext 0 (Y 12)),qq 20 (.ext 1 (Y 12)),qm 7 19,qm 8 20]) (Z (Z (yr [qm 21 8,qq 22 (.un .not (Y 21))]) (yd (Y 22) (Z (yr [qq 4 (.mv (yc (.slice none 0 0))),qq 5 (.mv (kb false)),qq 6 (.mv (ki 3))]) .ret) yk)) (Z (yr [qm 23 0,qm 24 7,qq 25 (.nck (Y 23)),qq 26 (.fad 4 (Y 25)),qn (.st 1 (Y 26) (Y 24))]) (Z (.drg [qm 28 0,qq 29 (.nck (Y 28)),qq 30 (.fad 0 (Y 29)),qq 31 (.ld (.some 3) (Y 30)),qm 32 0,qq 33 (.nck (Y 32)),qq 34 (.fad 5 (Y 33)),qq 35 (.ld none (Y 34)),qm 36 1,qq 37 (yl 130 [(Y 31),(Y 35),(Y 36)]),qm 27 37,qq 38 (.ext 0 (Y 27)),qq 39 (.ext 1 (Y 27)),qq 40 (.ext 2 (Y 27)),qq 9 (.alc 197 [(.bool false),(.bool false),(.bool false),(.bool false),(.bool false),(.int .u8 0)]),qn (.st 6 (Y 9) (Y 38)),qm 10 39,qm 11 40] (.some (.br [qm 28 0,qq 29 (.nck (Y 28)),qq 30 (.fad 0 (Y 29)),qm 32 0,qq 33 (.nck (Y 32)),qq 34 (.fad 5 (Y 33)),qm 36 1] (.br [qq 31 (.ld (.some 3) (Y 30))] (.br [qq 35 (.ld none (Y 34))] (.leaf [qq 37 (yl 130 [(Y 31),(Y 35),(Y 36)]),qm 27 37,qq 38 (.ext 0 (Y 27)),qq 39 (.ext 1 (Y 27)),qq 40 (.ext 2 (Y 27)),qq 9 (.alc 197 [(.bool false),(.bool false),(.bool false),(.bool false),(.bool false),(.int .u8 0)]),qn (.st 6 (Y 9) (Y 38)),qm 10 39,qm 11 40]) (.leaf [qq 9 (.alc 197 [(.bool false),(.bool false),(.bool false),(.bool false),(.bool false),(.int .u8 0)]),qq 37 (yl 130 [(Y 31),(Y 35),(Y 36)]),qm 27 37,qq 38 (.ext 0 (Y 27)),qq 39 (.ext 1 (Y 27)),qq 40 (.ext 2 (Y 27)),qn (.st 6 (Y 9) (Y 38)),qm 10 39,qm 11 40])) (.leaf [qq 9 (.alc 197 [(.bool false),(.bool false),(.bool false),(.bool false),(.bool false),(.int .u8 0)]),qq 35 (.ld none (Y 34)),qq 37 (yl 130 [(Y 31),(Y 35),(Y 36)]),qm 27 37,qq 38 (.ext 0 (Y 27)),qq 39 (.ext 1 (Y 27)),qq 40 (.ext 2 (Y 27)),qn (.st 6 (Y 9) (Y 38)),qm 10 39,qm 11 40])) (.br [] (.br [qq 35 (.ld none (Y 34))] (.br [qq 31 (.ld (.some 3) (Y 30))] (.leaf [qq 37 (yl 130 [(Y 31),(Y 35),(Y 36)]),qm 27 37,qq 38 (.ext 0 (Y 27)),qq 39 (.ext 1 (Y 27)),qq 40 (.ext 2 (Y 27)),qq 9 (.alc 197 [(.bool false),(.bool false),(.bool false),(.bool false),(.bool false),(.int .u8 0)]),qn (.st 6 (Y 9) (Y 38)),qm 10 39,qm 11 40]) (.leaf [qq 9 (.alc 197 [(.bool false),(.bool false),(.bool false),(.bool false),(.bool false),(.int .u8 0)]),qq 37 (yl 130 [(Y 31),(Y 35),(Y 36)]),qm 27 37,qq 38 (.ext 0 (Y 27)),qq 39 (.ext 1 (Y 27)),qq 40 (.ext 2 (Y 27)),qn (.st 6 (Y 9) (Y 38)),qm 10 39,qm 11 40])) (.leaf [qq 9 (.alc 197 [(.bool false),(.bool false),(.bool false),(.bool false),(.bool false),(.int .u8 0)]),qq 31 (.ld (.some 3) (Y 30)),qq 37 (yl 130 [(Y 31),(Y 35),(Y 36)]),qm 27 37,qq 38 (.ext 0 (Y 27)),qq 39 (.ext 1 (Y 27)),qq 40 (.ext 2 (Y 27)),qn (.st 6 (Y 9) (Y 38)),qm 10 39,qm 11 40])) (.br [qq 9 (.alc 197 [(.bool false),(.bool false),(.bool false),(.bool false),(.bool false),(.int .u8 0)])] (.leaf [qq 31 (.ld (.some 3) (Y 30)),qq 35 (.ld none (Y 34)),qq 37 (yl 130 [(Y 31),(Y 35),(Y 36)]),qm 27 37,qq 38 (.ext 0 (Y 27)),qq 39 (.ext 1 (Y 27)),qq 40 (.ext 2 (Y 27)),qn (.st 6 (Y 9) (Y 38)),qm 10 39,qm 11 40]) (.leaf [qq 35 (.ld none (Y 34)),qq 31 (.ld (.some 3) (Y 30)),qq 37 (yl 130 [(Y 31),(Y 35),(Y 36)]),qm 27 37,qq 38 (.ext 0 (Y 27)),qq 39 (.ext 1 (Y 27)),qq 40 (.ext 2 (Y 27)),qn (.st 6 (Y 9) (Y 38)),qm 10 39,qm 11 40])))))) (Z (Z (yr [qm 41 11,qq 42 (yb .neq (Y 41) (ki 0))]) (yd (Y 42) (Z (yr [qm 43 11,qq 4 (.mv (yc (.slice none 0 0))),qq 5 (.mv (kb false)),qm 6 43]) .ret) yk)) (Z (yr [qm 44 0,qm 45 10,qq 46 (.nck (Y 44)),qq 47 (.fad 5 (Y 46)),qn (.st 1 (Y 47) (Y 45))]) (Z (.drg [qm 48 0,qq 49 (.nck (Y 48)),qq 50 (.fad 3 (Y 49)),qq 51 (.ld none (Y 50)),qq 52 (.ld (.some 6) (Y 9)),qq 53 (yl 131 [(Y 51),(Y 52)]),qq 54 (.ext 0 (Y 53)),qq 55 (.ext 1 (Y 53)),qq 56 (.ext 2 (Y 53)),qm 4 54,qm 5 55,qm 6 56] (.some (.br [qm 48 0,qq 49 (.nck (Y 48)),qq 50 (.fad 3 (Y 49))] (.leaf [qq 51 (.ld none (Y 50)),qq 52 (.ld (.some 6) (Y 9)),qq 53 (yl 131 [(Y 51),(Y 52)]),qq 54 (.ext 0 (Y 53)),qq 55 (.ext 1 (Y 53)),qq 56 (.ext 2 (Y 53)),qm 4 54,qm 5 55,qm 6 56]) (.leaf [qq 52 (.ld (.some 6) (Y 9)),qq 51 (.ld none (Y 50)),qq 53 (yl 131 [(Y 51),(Y 52)]),qq 54 (.ext 0 (Y 53)),qq 55 (.ext 1 (Y 53)),qq 56 (.ext 2 (Y 53)),qm 4 54,qm 5 55,qm 6 56])))) .ret))))))))
set_option maxHeartbeats 1000000 in
theorem wstep_spec {gw g:Nat} {d:Dl} {l:Lm} {q st:Int} {m:Mk} {b:UInt8} {M:List Chk} {w w0:World} (hM:WkS w0 w gw g d l q st m M) (hb:bdM 900000000 m) :
 Ret Tryz.prog 88 #[.pointer (some ⟨gw,0,none⟩),U b.toNat] w fun res w'=>SRes w0 w' gw g d l M res (stepW d l q st m b):=by
 refine En 57 c88 Tryz.func88 ?_
 obtain ⟨fv,rv,hS⟩:=hM
 unfold stepW
 cases hu:(stepM q b.toNat).2
 ·rw [if_pos rfl]
  (have fct:=@hu;repeat' (first|(refine gO ?_;intro K hK)|(refine kP ?_;clear hK K)|(refine hK _ _ ?_ ?_<;>clear hK K)|(intro wd hxd;have hS:=Sep.xx hxd)|refine sA ?_|(refine zalc ?_;intro gb wb hS)|((with_reducible refine gSt ?_);refine zs2 ?_;intro wb hS)|(refine zcp 129 (step_spec _ _ _) ?_;intro wb hS)|(refine G.cn ?_ ?_<;>intro hc<;>try exact zxf)))<;>(try clear fct)
  all_goals
   refine rM ?_
   exact ⟨rfl,Sep.sub hS zv⟩
 ·rw [if_neg ze]
  unfold stepR
  by_cases hs:(scM d st b).2.2=0
  ·rw [if_neg zo]
   cases ht:takeM l m (scM d st b).1 with
   | error k =>
     have hk:=take_err ht
     (have fct:=(aI @hu @hs);repeat' (first|(refine gO ?_;intro K hK)|(refine kP ?_;clear hK K)|(refine hK _ _ ?_ ?_<;>clear hK K)|(intro wd hxd;have hS:=Sep.xx hxd)|refine sA ?_|(refine zalc ?_;intro gb wb hS)|((with_reducible refine gSt ?_);refine zs2 ?_;intro wb hS)|(refine zcp 129 (step_spec _ _ _) ?_;intro wb hS)|(refine zcp 130 (scStep_spec d st b _) ?_;intro wb hS)|((with_reducible (show CallK _ 131 _ _ _ _ _));have hx:=MkS.of (l:=l) (m:=m) hS zr zr zr;refine zco 131 (mtake_spec hx hb (sc_ev d st b)) ?_;clear hx;intro vb wb hG;rw [ht] at hG;obtain ⟨rfl,hS⟩:=hG)|(refine G.cn ?_ ?_<;>intro hc<;>try exact zxf)))<;>(try clear fct)
     all_goals
      refine rM ?_
      exact ⟨rfl,Sep.sub hS zv⟩
   | ok x =>
     obtain ⟨m2,o⟩:=x
     cases o with
     | none =>
       (have fct:=(aI @hu @hs);repeat' (first|(refine gO ?_;intro K hK)|(refine kP ?_;clear hK K)|(refine hK _ _ ?_ ?_<;>clear hK K)|(intro wd hxd;have hS:=Sep.xx hxd)|refine sA ?_|(refine zalc ?_;intro gb wb hS)|((with_reducible refine gSt ?_);refine zs2 ?_;intro wb hS)|(refine zcp 129 (step_spec _ _ _) ?_;intro wb hS)|(refine zcp 130 (scStep_spec d st b _) ?_;intro wb hS)|((with_reducible (show CallK _ 131 _ _ _ _ _));have hx:=MkS.of (l:=l) (m:=m) hS zr zr zr;refine zco 131 (mtake_spec hx hb (sc_ev d st b)) ?_;clear hx;intro vb wb hG;rw [ht] at hG;obtain ⟨rfl,fv2,rv2,hS⟩:=hG)|(refine G.cn ?_ ?_<;>intro hc<;>try exact zxf)))<;>(try clear fct)
       all_goals
        refine rM ?_
        exact ⟨rfl,fv2,rv2,Sep.sub hS zv⟩
     | some r =>
       (have fct:=(aI @hu @hs);repeat' (first|(refine gO ?_;intro K hK)|(refine kP ?_;clear hK K)|(refine hK _ _ ?_ ?_<;>clear hK K)|(intro wd hxd;have hS:=Sep.xx hxd)|refine sA ?_|(refine zalc ?_;intro gb wb hS)|((with_reducible refine gSt ?_);refine zs2 ?_;intro wb hS)|(refine zcp 129 (step_spec _ _ _) ?_;intro wb hS)|(refine zcp 130 (scStep_spec d st b _) ?_;intro wb hS)|((with_reducible (show CallK _ 131 _ _ _ _ _));have hx:=MkS.of (l:=l) (m:=m) hS zr zr zr;refine zco 131 (mtake_spec hx hb (sc_ev d st b)) ?_;clear hx;intro vb wb hG;rw [ht] at hG;obtain ⟨rv3,rfl,fv2,rv2,hS⟩:=hG)|(refine G.cn ?_ ?_<;>intro hc<;>try exact zxf)))<;>(try clear fct)
       all_goals
        refine rM ?_
        exact ⟨rv3,rfl,fv2,rv2,Sep.sub hS zv⟩
  ·rw [if_pos hs]
   (have fct:=@hu;repeat' (first|(refine gO ?_;intro K hK)|(refine kP ?_;clear hK K)|(refine hK _ _ ?_ ?_<;>clear hK K)|(intro wd hxd;have hS:=Sep.xx hxd)|refine sA ?_|(refine zalc ?_;intro gb wb hS)|((with_reducible refine gSt ?_);refine zs2 ?_;intro wb hS)|(refine zcp 129 (step_spec _ _ _) ?_;intro wb hS)|(refine zcp 130 (scStep_spec d st b _) ?_;intro wb hS)|(refine G.cn ?_ ?_<;>intro hc<;>try exact zxf)))<;>(try clear fct)
   all_goals
    refine rM ?_
    exact ⟨rfl,Sep.sub hS zv⟩
def NRes (w0 w':World) (M:List Chk) (res:Value):Except Int (Option (List Str))→Prop
 | .error k=>res=(.tuple #[.slice none 0 0,.bool false,I k])∧Sep w0 w' M
 | .ok none=>res=(.tuple #[.slice none 0 0,.bool false,I 0])∧Sep w0 w' M
 | .ok (some r)=>∃ rv,res=.tuple #[rv,.bool true,I 0]∧Sep w0 w' (accC rv 9 eS r :: M)
def c89:MC:=(Z (yr [qq 2 (.mv (yc (.slice none 0 0))),qq 3 (.mv (kb false)),qq 4 (.mv (ki 0))]) (Z (Z (yr [qm 7 0,qq 8 (.nck (Y 7)),qq 9 (.fad 4 (Y 8)),qq 10 (.ld none (Y 9)),qq 11 (yb .neq (Y 10) (ki 0))]) (yd (Y 11) (Z (yr [qq 2 (.mv (yc (.slice none 0 0))),qq 3 (.mv (kb false)),qq 4 (.mv (ki 12))]) .ret) yk)) (Z (yr [qm 13 0,qq 14 (.nck (Y 13)),qq 15 (.fad 5 (Y 14)),qq 16 (.ld none (Y 15)),qq 17 (yl 132 [(Y 16)]),qm 12 17,qq 18 (.ext 0 (Y 12)),qq 19 (.ext 1 (Y 12)),qq 5 (.alc 197 [(.bool false),(.bool false),(.bool false),(.bool false),(.bool false),(.int .u8 0)]),qn (.st 6 (Y 5) (Y 18)),qm 6 19]) (Z (Z (yr [qm 20 6,qq 21 (yb .neq (Y 20) (ki 0))]) (yd (Y 21) (Z (yr [qm 22 6,qq 2 (.mv (yc (.slice none 0 0))),qq 3 (.mv (kb false)),qm 4 22]) .ret) yk)) (Z (.drg [qm 23 0,qq 24 (.nck (Y 23)),qq 25 (.fad 3 (Y 24)),qq 26 (.ld none (Y 25)),qq 27 (.ld (.some 6) (Y 5)),qq 28 (yl 131 [(Y 26),(Y 27)]),qq 29 (.ext 0 (Y 28)),qq 30 (.ext 1 (Y 28)),qq 31 (.ext 2 (Y 28)),qm 2 29,qm 3 30,qm 4 31] (.some (.br [qm 23 0,qq 24 (.nck (Y 23)),qq 25 (.fad 3 (Y 24))] (.leaf [qq 26 (.ld none (Y 25)),qq 27 (.ld (.some 6) (Y 5)),qq 28 (yl 131 [(Y 26),(Y 27)]),qq 29 (.ext 0 (Y 28)),qq 30 (.ext 1 (Y 28)),qq 31 (.ext 2 (Y 28)),qm 2 29,qm 3 30,qm 4 31]) (.leaf [qq 27 (.ld (.some 6) (Y 5)),qq 26 (.ld none (Y 25)),qq 28 (yl 131 [(Y 26),(Y 27)]),qq 29 (.ext 0 (Y 28)),qq 30 (.ext 1 (Y 28)),qq 31 (.ext 2 (Y 28)),qm 2 29,qm 3 30,qm 4 31])))) .ret)))))
set_option maxHeartbeats 1000000 in
theorem wend_spec {gw g:Nat} {d:Dl} {l:Lm} {q st:Int} {m:Mk} {M:List Chk} {w w0:World} (hM:WkS w0 w gw g d l q st m M) (hb:bdM 900000000 m) :
 Ret Tryz.prog 89 #[.pointer (some ⟨gw,0,none⟩)] w fun res w'=>NRes w0 w' M res (endW l q st m):=by
 refine En 32 c89 Tryz.func89 ?_
 obtain ⟨fv,rv,hS⟩:=hM
 unfold endW
 by_cases hq:q=0
 ·rw [if_neg zo]
  unfold endR
  by_cases hs:(closeM st).2=0
  ·rw [if_neg zo]
   cases ht:takeM l m (closeM st).1 with
   | error k =>
     have hk:=take_err ht
     (have fct:=(aI @hq @hs);repeat' (first|(refine gO ?_;intro K hK)|(refine kP ?_;clear hK K)|(refine hK _ _ ?_ ?_<;>clear hK K)|(intro wd hxd;have hS:=Sep.xx hxd)|refine sA ?_|(refine zalc ?_;intro gb wb hS)|((with_reducible refine gSt ?_);refine zs2 ?_;intro wb hS)|(refine zcp 132 (scClose_spec st _) ?_;intro wb hS)|((with_reducible (show CallK _ 131 _ _ _ _ _));have hx:=MkS.of (l:=l) (m:=m) hS zr zr zr;refine zco 131 (mtake_spec hx hb (close_ev st)) ?_;clear hx;intro vb wb hG;rw [ht] at hG;obtain ⟨rfl,hS⟩:=hG)|(refine G.cn ?_ ?_<;>intro hc<;>try exact zxf)))<;>(try clear fct)
     all_goals
      refine rM ?_
      exact ⟨rfl,Sep.sub hS zv⟩
   | ok x =>
     obtain ⟨m2,o⟩:=x
     cases o with
     | none =>
       (have fct:=(aI @hq @hs);repeat' (first|(refine gO ?_;intro K hK)|(refine kP ?_;clear hK K)|(refine hK _ _ ?_ ?_<;>clear hK K)|(intro wd hxd;have hS:=Sep.xx hxd)|refine sA ?_|(refine zalc ?_;intro gb wb hS)|((with_reducible refine gSt ?_);refine zs2 ?_;intro wb hS)|(refine zcp 132 (scClose_spec st _) ?_;intro wb hS)|((with_reducible (show CallK _ 131 _ _ _ _ _));have hx:=MkS.of (l:=l) (m:=m) hS zr zr zr;refine zco 131 (mtake_spec hx hb (close_ev st)) ?_;clear hx;intro vb wb hG;rw [ht] at hG;obtain ⟨rfl,fv2,rv2,hS⟩:=hG)|(refine G.cn ?_ ?_<;>intro hc<;>try exact zxf)))<;>(try clear fct)
       all_goals
        refine rM ?_
        exact ⟨rfl,Sep.sub hS zv⟩
     | some r =>
       (have fct:=(aI @hq @hs);repeat' (first|(refine gO ?_;intro K hK)|(refine kP ?_;clear hK K)|(refine hK _ _ ?_ ?_<;>clear hK K)|(intro wd hxd;have hS:=Sep.xx hxd)|refine sA ?_|(refine zalc ?_;intro gb wb hS)|((with_reducible refine gSt ?_);refine zs2 ?_;intro wb hS)|(refine zcp 132 (scClose_spec st _) ?_;intro wb hS)|((with_reducible (show CallK _ 131 _ _ _ _ _));have hx:=MkS.of (l:=l) (m:=m) hS zr zr zr;refine zco 131 (mtake_spec hx hb (close_ev st)) ?_;clear hx;intro vb wb hG;rw [ht] at hG;obtain ⟨rv3,rfl,fv2,rv2,hS⟩:=hG)|(refine G.cn ?_ ?_<;>intro hc<;>try exact zxf)))<;>(try clear fct)
       all_goals
        refine rM ?_
        exact ⟨rv3,rfl,Sep.sub hS zv⟩
  ·rw [if_pos hs]
   (have fct:=@hq;repeat' (first|(refine gO ?_;intro K hK)|(refine kP ?_;clear hK K)|(refine hK _ _ ?_ ?_<;>clear hK K)|(intro wd hxd;have hS:=Sep.xx hxd)|refine sA ?_|(refine zalc ?_;intro gb wb hS)|((with_reducible refine gSt ?_);refine zs2 ?_;intro wb hS)|(refine zcp 132 (scClose_spec st _) ?_;intro wb hS)|(refine G.cn ?_ ?_<;>intro hc<;>try exact zxf)))<;>(try clear fct)
   all_goals
    refine rM ?_
    exact ⟨rfl,Sep.sub hS zv⟩
 ·rw [if_pos hq]
  repeat' (first|(refine gO ?_;intro K hK)|(refine kP ?_;clear hK K)|(refine hK _ _ ?_ ?_<;>clear hK K)|(intro wd hxd;have hS:=Sep.xx hxd)|refine sA ?_|(refine zalc ?_;intro gb wb hS)|((with_reducible refine gSt ?_);refine zs2 ?_;intro wb hS)|(refine G.cn ?_ ?_<;>intro hc<;>try exact zxf))
  all_goals
   refine rM ?_
   exact ⟨rfl,Sep.sub hS zv⟩
end Go.Proofs.YtllanbmpacgigaaGreatDoor
