/- Texts of the proof, joined. -/
import Derived.Test.YtjajihaeoolefaaGreatDoorBR25
import Derived.Test.YtjajihaeoolefaaGreatDoorBF25
import Derived.Test.YtjajihaeoolefaaGreatDoorBI20
namespace Go.Proofs.YtjajihaeoolefaaGreatDoor
open Nat renaming reduceAdd→zq1,reduceLeDiff→zq2,reduceEqDiff→zq3,reduceLT→zq4
open Int renaming reduceToNat→zq5
set_option linter.unusedSimpArgs false
set_option linter.unusedVariables false
attribute [local irreducible] SemK UnitK StK AlcK BslK CallK CallV Instr.box Builtin.append_ Instr.makeSlice Instr.makeMap Instr.lookup Instr.mapUpdate Instr.sliceAt convert
open Go.RowKit
def SmR (r:List Val):Prop:=(∀ x∈r,i64M x.n∧x.s.length≤40)∧r.length≤12
theorem smR_nil:SmR []:=⟨fun v hv=>by simp at hv,by simp⟩
theorem SmR.fine {r:List Val} (h:SmR r):FineV r:=fun v hv=>⟨by have:=(h.1 v hv).2;omega,(h.1 v hv).1.1,(h.1 v hv).1.2⟩
theorem dif_sm {ps:List Int} {ra rb:List (List Val)} (ha:KeyD ps ra) (hb:KeyD ps rb) (qa:∀ r∈ra,SmR r) (qb:∀ r∈rb,SmR r) {c:Chg} (h:c∈difM ps ra rb):SmR c.old∧SmR c.new:=by
  obtain ⟨m,h⟩:=(dif_mem ha hb c).1 h
  cases e1:getR ps ra m with
  | none =>
    cases e2:getR ps rb m with
    | none=>rw [e1,e2] at h;cases h
    | some s=>rw [e1,e2] at h;cases h;exact ⟨smR_nil,qb s (getR_some e2).1⟩
  | some r =>
    cases e2:getR ps rb m with
    | none=>rw [e1,e2] at h;cases h;exact ⟨qa r (getR_some e1).1,smR_nil⟩
    | some s =>
      rw [e1,e2] at h
      simp only [chgM] at h
      split at h
      · cases h
      · cases h;exact ⟨qa r (getR_some e1).1,qb s (getR_some e2).1⟩
theorem dif_lenT (ps:List Int) (ra rb:List (List Val)):(difM ps ra rb).length≤ra.length+rb.length:=by
  unfold difM
  rw [List.length_append]
  have h1:=List.length_filterMap_le (dif1 ps rb) ra
  have h2:=List.length_filterMap_le (dif2 ps ra) rb
  omega
theorem count_permU {a b:List (List Val)} (h:a.Perm b) (r:List Val):countM a r=countM b r:=h.countP_eq _
theorem sm_rows {rows:List (List Val)} (hn:rows.length≤12) (h:∀ r∈rows,SmR r):RowsOK rows :=
  ⟨by omega,fun v hv=>⟨by have:=(h v hv).2;omega,fun x hx=>⟨((h v hv).1 x hx).1,by have:=((h v hv).1 x hx).2;omega⟩⟩⟩
theorem sm_text {d:Dl} (hd:byD d) (hrt:rightD d=true) {l:List Col} (hck:(checkM (l.map nkC)).2=0) (hl:l.length≤12) (hln:∀ c∈l,c.name.length≤40) {rows:List (List Val)} (hn:rows.length≤12) (h:∀ r∈rows,SmR r) (hr:∀ v∈rows,(recM v l).2.2=0) :
    ∃ T:Str,writeM d l rows=(T,⟨0,0,0,0⟩)∧T.length≤800000∧∀ m:Int,1≤m∧m≤3→readM d l m T=(rows,⟨0,0,0,0⟩):=by
  have hW:=writeM_good d l rows (writeM_all d l rows hck hrt hr)
  refine ⟨_,hW.2.2.2,?_,fun m hm=>read_own hd hrt l hck (by omega) (fun c hc=>by have:=hln c hc;omega) m hm rows (by omega) fun v hv=>⟨fun x hx=>⟨((h v hv).1 x hx).1,by have:=((h v hv).1 x hx).2;omega⟩,hr v hv⟩⟩
  have hsz:=write_size (d:=d) l hck 12 45 hl (by decide) (fun c hc=>by have:=hln c hc;omega) rows fun v hv=>⟨fun x hx=>⟨((h v hv).1 x hx).1,by have:=((h v hv).1 x hx).2;omega⟩,hr v hv⟩
  exact Nat.le_trans hsz (Nat.le_trans (Nat.mul_le_mul_right _ (show rows.length+1≤13 by omega)) (by decide))
attribute [local irreducible] accC boxC frzC frzG
def c3l1:MC:=(.seq (.reg [qq 51 (.bin .lss (.tmp 50) (.tmp 49))]) (.seq (.cond (.tmp 51) .skip (.exit 0)) (.seq (.blk 1 (.seq (.reg [qm 52 50,qq 53 (.adr 2 (.tmp 48) (.tmp 50)),qq 54 (.ld (.some 2) (.tmp 53)),qq 9 (.alc 27 [(.slice none 0 0),(.slice none 0 0)]),qm 8 52,qn (.st 2 (.tmp 9) (.tmp 54))]) (.seq (.reg [qq 56 (.ld (.some 3) (.tmp 2)),qq 57 (.fad 0 (.tmp 9)),qq 58 (.ld none (.tmp 57)),qq 59 (.fad 1 (.tmp 9)),qq 60 (.ld none (.tmp 59)),qq 61 (.call 9 [(.tmp 56),(.tmp 58),(.tmp 60)]),qm 55 61,qq 62 (.ext 0 (.tmp 55)),qq 63 (.ext 1 (.tmp 55)),qq 11 (.alc 44 [(.int .i64 0),(.int .i64 0),(.int .i64 0),(.int .i64 0)]),qm 10 62,qn (.st 4 (.tmp 11) (.tmp 63))]) (.seq (.seq (.reg [qq 64 (.ld (.some 4) (.tmp 11)),qq 65 (.bld [(.int .i64 0),(.int .i64 0),(.int .i64 0),(.int .i64 0)] []),qq 66 (.eqA true [.i,.i,.i,.i] (.tmp 64) (.tmp 65))]) (.cond (.tmp 66) (.seq (.reg [qq 67 (.call 7 []),qm 4 67]) .ret) .skip)) (.seq (.reg [qq 69 (.ld (.some 3) (.tmp 2)),qq 70 (.fad 0 (.tmp 9)),qq 71 (.ld none (.tmp 70)),qm 72 10,qq 73 (.call 10 [(.tmp 69),(.tmp 71),(ki 1),(.tmp 72)]),qm 68 73,qq 74 (.ext 0 (.tmp 68)),qq 75 (.ext 1 (.tmp 68)),qm 12 74,qn (.st 4 (.tmp 11) (.tmp 75))]) (.seq (.seq (.drg [qq 76 (.ld (.some 4) (.tmp 11)),qq 77 (.bld [(.int .i64 0),(.int .i64 0),(.int .i64 0),(.int .i64 0)] []),qq 78 (.eqA true [.i,.i,.i,.i] (.tmp 76) (.tmp 77)),qm 79 78,qmf 79 80 12,qf 79 81 (.call 12 [(.tmp 80)]),qf 79 82 (.fad 1 (.tmp 9)),qf 79 83 (.ld none (.tmp 82)),qf 79 84 (.call 12 [(.tmp 83)]),qf 79 85 (.call 11 [(.tmp 81),(.tmp 84)]),qf 79 86 (.un .not (.tmp 85)),qq 87 (.pick (.tmp 79) (kb true) (.tmp 86))] (.some (.br [qq 77 (.bld [(.int .i64 0),(.int .i64 0),(.int .i64 0),(.int .i64 0)] []),qq 76 (.ld (.some 4) (.tmp 11)),qq 78 (.eqA true [.i,.i,.i,.i] (.tmp 76) (.tmp 77)),qm 79 78,qmf 79 80 12,qf 79 82 (.fad 1 (.tmp 9))] (.leaf [qf 79 81 (.call 12 [(.tmp 80)]),qf 79 83 (.ld none (.tmp 82)),qf 79 84 (.call 12 [(.tmp 83)]),qf 79 85 (.call 11 [(.tmp 81),(.tmp 84)]),qf 79 86 (.un .not (.tmp 85)),qq 87 (.pick (.tmp 79) (kb true) (.tmp 86))]) (.leaf [qf 79 83 (.ld none (.tmp 82)),qf 79 81 (.call 12 [(.tmp 80)]),qf 79 84 (.call 12 [(.tmp 83)]),qf 79 85 (.call 11 [(.tmp 81),(.tmp 84)]),qf 79 86 (.un .not (.tmp 85)),qq 87 (.pick (.tmp 79) (kb true) (.tmp 86))])))) (.cond (.tmp 87) (.seq (.reg [qq 4 (.mv (kb false))]) .ret) .skip)) (.reg [qm 88 8,qq 89 (.fad 0 (.tmp 9)),qq 90 (.ld none (.tmp 89)),qm 91 12,qq 92 (.bld [(.slice none 0 0),(.slice none 0 0)] [⟨0,⟨1,(.tmp 90)⟩⟩,⟨1,⟨1,(.tmp 91)⟩⟩]),qq 93 (.adA 2 2 (.tmp 7) (.tmp 88)),qn (.st 2 (.tmp 93) (.tmp 92))]))))))) (.reg [qq 94 (.bin .add (.tmp 50) (ki 1)),qm 50 94]))))
def c3:MC:=(.seq (.reg [qq 2 (.raw (.box 23 (.tmp 0)) 0),qq 3 (.raw (.box 30 (.tmp 1)) 0),qq 4 (.mv (kb false))]) (.seq (.seq (.reg [qq 21 (.ld (.some 5) (.tmp 3)),qq 22 (.call 4 [(.tmp 21)]),qq 23 (.un .not (.tmp 22)),qm 24 23,qf 24 25 (.ld (.some 3) (.tmp 2)),qf 24 26 (.call 6 [(.tmp 25)]),qf 24 27 (.call 5 [(.tmp 26)]),qf 24 28 (.un .not (.tmp 27)),qq 29 (.pick (.tmp 24) (kb true) (.tmp 28))]) (.cond (.tmp 29) (.seq (.reg [qq 30 (.call 7 []),qm 4 30]) .ret) .skip)) (.seq (.seq (.reg [qq 32 (.fad 0 (.tmp 3)),qq 33 (.ld (.some 2) (.tmp 32)),qq 34 (.fad 2 (.tmp 3)),qq 35 (.ld (.some 2) (.tmp 34)),qq 36 (.fad 4 (.tmp 3)),qq 37 (.ld none (.tmp 36)),qq 38 (.call 8 [(.tmp 33),(.tmp 35),(.tmp 37)]),qm 31 38,qq 39 (.ext 0 (.tmp 31)),qq 40 (.ext 1 (.tmp 31)),qm 5 39,qm 6 40]) (.seq (.reg [qm 41 6,qq 42 (.bin .neq (.tmp 41) (ki 0))]) (.cond (.tmp 42) (.seq (.reg [qq 43 (.call 7 []),qm 4 43]) .ret) .skip))) (.seq (.reg [qq 7 (.alc 41 [(.slice none 0 0),(.slice none 0 0),(.slice none 0 0),(.slice none 0 0)])]) (.seq (.seq (.reg [qq 44 (.fad 0 (.tmp 3)),qq 45 (.ld (.some 2) (.tmp 44)),qq 46 (.fad 2 (.tmp 3)),qq 47 (.ld (.some 2) (.tmp 46)),qq 48 (.bsl 27 [(.slice none 0 0),(.slice none 0 0),(.slice none 0 0),(.slice none 0 0)] 2 [⟨0,⟨2,(.tmp 45)⟩⟩,⟨2,⟨2,(.tmp 47)⟩⟩]),qq 49 (.len (.tmp 48)),qq 50 (.mv (ki 0))]) (.blk 0 (.loop c3l1))) (.seq (.reg [qq 96 (.adA 2 2 (.tmp 7) (ki 0)),qq 97 (.ld (.some 2) (.tmp 96)),qq 98 (.adA 2 2 (.tmp 7) (ki 1)),qq 99 (.ld (.some 2) (.tmp 98)),qq 100 (.fad 4 (.tmp 3)),qq 101 (.ld none (.tmp 100)),qq 102 (.call 8 [(.tmp 97),(.tmp 99),(.tmp 101)]),qm 95 102,qq 103 (.ext 0 (.tmp 95)),qq 104 (.ext 1 (.tmp 95)),qm 13 103,qm 14 104]) (.seq (.reg [qq 106 (.adA 2 2 (.tmp 7) (ki 0)),qq 107 (.ld (.some 2) (.tmp 106)),qq 108 (.fad 4 (.tmp 3)),qq 109 (.ld none (.tmp 108)),qm 110 13,qq 111 (.call 13 [(.tmp 107),(.tmp 109),(.tmp 110)]),qm 105 111,qq 112 (.ext 0 (.tmp 105)),qq 113 (.ext 1 (.tmp 105)),qq 114 (.ext 2 (.tmp 105)),qq 15 (.alc 27 [(.slice none 0 0),(.slice none 0 0)]),qn (.st 2 (.tmp 15) (.tmp 112)),qm 16 113,qm 17 114]) (.seq (.reg [qq 116 (.ld (.some 3) (.tmp 2)),qq 117 (.fad 0 (.tmp 15)),qq 118 (.ld none (.tmp 117)),qq 119 (.fad 1 (.tmp 15)),qq 120 (.ld none (.tmp 119)),qq 121 (.call 9 [(.tmp 116),(.tmp 118),(.tmp 120)]),qm 115 121,qq 122 (.ext 0 (.tmp 115)),qq 123 (.ext 1 (.tmp 115)),qq 19 (.alc 44 [(.int .i64 0),(.int .i64 0),(.int .i64 0),(.int .i64 0)]),qm 18 122,qn (.st 4 (.tmp 19) (.tmp 123))]) (.seq (.seq (.reg [qm 124 14,qq 125 (.bin .neq (.tmp 124) (ki 0)),qm 126 125,qmf 126 127 17,qf 126 128 (.bin .neq (.tmp 127) (ki 0)),qq 129 (.pick (.tmp 126) (kb true) (.tmp 128)),qm 130 129,qf 130 131 (.ld (.some 4) (.tmp 19)),qf 130 132 (.bld [(.int .i64 0),(.int .i64 0),(.int .i64 0),(.int .i64 0)] []),qf 130 133 (.eqA true [.i,.i,.i,.i] (.tmp 131) (.tmp 132)),qq 134 (.pick (.tmp 130) (kb true) (.tmp 133))]) (.cond (.tmp 134) (.seq (.reg [qq 4 (.mv (kb false))]) .ret) .skip)) (.seq (.reg [qq 136 (.ld (.some 3) (.tmp 2)),qq 137 (.fad 0 (.tmp 15)),qq 138 (.ld none (.tmp 137)),qm 139 18,qq 140 (.call 10 [(.tmp 136),(.tmp 138),(ki 2),(.tmp 139)]),qm 135 140,qq 141 (.ext 0 (.tmp 135)),qq 142 (.ext 1 (.tmp 135)),qm 20 141,qn (.st 4 (.tmp 19) (.tmp 142))]) (.seq (.drg [qq 143 (.ld (.some 4) (.tmp 19)),qq 144 (.bld [(.int .i64 0),(.int .i64 0),(.int .i64 0),(.int .i64 0)] []),qq 145 (.eqA false [.i,.i,.i,.i] (.tmp 143) (.tmp 144)),qm 146 145,qt 146 147 (.fad 0 (.tmp 15)),qt 146 148 (.ld none (.tmp 147)),qmt 146 149 20,qt 146 150 (.bld [(.slice none 0 0),(.slice none 0 0)] [⟨0,⟨1,(.tmp 148)⟩⟩,⟨1,⟨1,(.tmp 149)⟩⟩]),qt 146 151 (.call 15 [(.tmp 150)]),qt 146 152 (.fad 2 (.tmp 3)),qt 146 153 (.ld (.some 2) (.tmp 152)),qt 146 154 (.call 15 [(.tmp 153)]),qt 146 155 (.call 14 [(.tmp 151),(.tmp 154)]),qq 156 (.pick (.tmp 146) (.tmp 155) (kb false)),qm 157 156,qt 157 158 (.call 7 []),qq 159 (.pick (.tmp 157) (.tmp 158) (kb false)),qm 4 159] (.some (.br [qq 144 (.bld [(.int .i64 0),(.int .i64 0),(.int .i64 0),(.int .i64 0)] []),qq 143 (.ld (.some 4) (.tmp 19)),qq 145 (.eqA false [.i,.i,.i,.i] (.tmp 143) (.tmp 144)),qm 146 145,qt 146 147 (.fad 0 (.tmp 15)),qmt 146 149 20,qt 146 152 (.fad 2 (.tmp 3))] (.br [qt 146 148 (.ld none (.tmp 147)),qt 146 150 (.bld [(.slice none 0 0),(.slice none 0 0)] [⟨0,⟨1,(.tmp 148)⟩⟩,⟨1,⟨1,(.tmp 149)⟩⟩])] (.leaf [qt 146 151 (.call 15 [(.tmp 150)]),qt 146 153 (.ld (.some 2) (.tmp 152)),qt 146 154 (.call 15 [(.tmp 153)]),qt 146 155 (.call 14 [(.tmp 151),(.tmp 154)]),qq 156 (.pick (.tmp 146) (.tmp 155) (kb false)),qm 157 156,qt 157 158 (.call 7 []),qq 159 (.pick (.tmp 157) (.tmp 158) (kb false)),qm 4 159]) (.leaf [qt 146 153 (.ld (.some 2) (.tmp 152)),qt 146 151 (.call 15 [(.tmp 150)]),qt 146 154 (.call 15 [(.tmp 153)]),qt 146 155 (.call 14 [(.tmp 151),(.tmp 154)]),qq 156 (.pick (.tmp 146) (.tmp 155) (kb false)),qm 157 156,qt 157 158 (.call 7 []),qq 159 (.pick (.tmp 157) (.tmp 158) (kb false)),qm 4 159])) (.leaf [qt 146 153 (.ld (.some 2) (.tmp 152)),qt 146 148 (.ld none (.tmp 147)),qt 146 150 (.bld [(.slice none 0 0),(.slice none 0 0)] [⟨0,⟨1,(.tmp 148)⟩⟩,⟨1,⟨1,(.tmp 149)⟩⟩]),qt 146 151 (.call 15 [(.tmp 150)]),qt 146 154 (.call 15 [(.tmp 153)]),qt 146 155 (.call 14 [(.tmp 151),(.tmp 154)]),qq 156 (.pick (.tmp 146) (.tmp 155) (kb false)),qm 157 156,qt 157 158 (.call 7 []),qq 159 (.pick (.tmp 157) (.tmp 158) (kb false)),qm 4 159])))) .ret)))))))))))
theorem k3:conv Tryz.prog 160 (Tryz.f3.body.getD .skip)=c3:=by kernel_rfl
theorem in3 {a0 a1:Value} {w:World} {R:Value→World→Prop} (h:G Tryz.prog Tryz.f3 160 [.c c3] R (frL 0 [a0,a1]) w):Ret Tryz.prog 3 #[a0,a1] w R:=G.enter (args:=[a0,a1]) Tryz.func3 (c:=Tryz.f3.body.getD .skip) (by kernel_rfl) (by kernel_rfl) (by simp) k3 h
def textsT:MC:=match c3 with
  | .seq _ (.seq _ (.seq _ (.seq _ (.seq _ t))))=>t
  | _=>.skip
def textsT2:MC:=match textsT with
  | .seq _ (.seq _ (.seq _ (.seq _ (.seq _ t))))=>t
  | _=>.skip
set_option maxHeartbeats 4000000 in
theorem texts_end {va ua vb ub vk a b rv:Value} {l:List Col} {rb T:List (List Val)} {us rs:List Value} {g3 g15 g19 n:Nat} {w wl:World} {u:Fr} (h1:Rd w eC vb l) (h2:RdT w eVal ub rb)
    (hll:l.length≤12) (hrl:rb.length≤12) (hf:∀ r∈rb,SmR r) (hTp:T.Perm rb)
    (q3:u 3=.pointer (some ⟨g3,0,none⟩)) (q15:u 15=.pointer (some ⟨g15,0,none⟩)) (q19:u 19=.pointer (some ⟨g19,0,none⟩)) (q20:u 20=rv)
    (hS:Sep w wl [boxC g19 44 [I 0,I 0,I 0,I 0],boxC g15 27 [a,b],accC a 74 eC l,accC b 79 eV us,frzC eVal us T,accC rv 79 eV rs,frzC eVal rs T,boxC g3 30 [va,ua,vb,ub,vk]]) :
    G Tryz.prog Tryz.f3 n [.c textsT2] (fun v w'=>v=.bool true∧Ext w w') u wl:=by
  unfold textsT2 textsT c3
  dsimp only
  have hTl:T.length=rb.length:=hTp.length_eq
  have oa:=(Sep.rd hS (.t (.t .h))).one
  have ob:=(Sep.rd hS (.t (.t (.t .h)))).one
  have ov:=(Sep.rd hS (.t (.t (.t (.t (.t .h)))))).one
  have oc:=h1.one
  have oc2:One ub:=by obtain ⟨vs,h,_⟩:=h2;exact h.one
  have hcn:∀ r∈T,countM T r=countM rb r:=fun r _=>count_permU hTp r
  have rl:∀ (L:List (List Val)),(∀ r∈L,SmR r)→∀ i,i < L.length→(L.getD i []).length≤1000000:=fun L hL i hi=>by
    have:=(hL _ (getD_mem L i (by omega))).2
    have hd:L.getD i default=L.getD i []:=rfl
    rw [hd] at this;omega
  have hTg:∀ r∈T,SmR r:=fun r hr=>hf r (hTp.mem_iff.1 hr)
  have hr3:=fun (w2:World) (ha:Rd w2 eC a l) (hb:RdT w2 eVal rv T)=>ref23_spec (w:=w2) ha hb (by omega) (by omega) (rl T hTg)
  have hr4:=fun (w2:World) (hx:Ext w w2)=>ref23_spec (w:=w2) (h1.ext hx) (h2.ext hx) (by omega) (by omega) (rl rb hf)
  have hsa:=fun (w2:World) {x1 x2 y1 y2:Value} (h1:Rd w2 eR x1 (l.map toR)) (h2:RdT w2 eRv x2 T) (h3:Rd w2 eR y1 (l.map toR)) (h4:RdT w2 eRv y2 rb)=>same28_spec h1 h2 h3 h4 (by omega) hTl hcn
  (have fct:=(And.intro @q3 (And.intro @q15 (And.intro @q19 @q20)));repeat' (first|((with_reducible apply G.a);exact rfl)|refine G.reg fun K hK=>?_|(with_reducible (refine hK _ _ ?_);clear hK K)|(with_reducible (refine hK _ ?_);clear hK K;intro wd hxd;have hS:=Sep.xx hxd)|((first|have hk:=hK|have hk:=hK2);clear hk;simp (disch:=first|exact dis|fail) only [push_cast,↓reduceIte,zq1,zq2,zq3,zq4,zq5,fct])|((first|refine brO_n ?_ ?_|refine brQ_n ?_ ?_)<;>intro hb hc<;>first|(with_reducible exact False.elim hc)|(exfalso;omega)|(simp only [hb];clear hb))|((first|refine zalc ?_|refine zbsl ?_|((with_reducible refine gBox ?_);refine zbox ?_));intro gb wb hS)|((with_reducible refine gSt ?_);refine zs2 ?_;intro wb hS)|((with_reducible (show CallK _ 15 [.agg #[a,rv]] _ _ _ _));refine zco 15 (hr3 _ (Sep.rd hS (by repeat constructor)) (Sep.rdT hS (vs:=rs) (by repeat constructor) (by repeat constructor))) ?_;rintro vb wb ⟨t1,t2,ts,rfl,hS2⟩;have hS:=hS2.ap;simp only [apps] at hS)|((with_reducible (show CallK _ 15 [.agg #[vb,ub]] _ _ _ _));refine zco 15 (hr4 _ hS.x) ?_;rintro vb wb ⟨z1,z2,zs,rfl,hS2⟩;have hS:=hS2.ap;simp only [apps] at hS)|(refine zcp 14 (hsa _ (Sep.rd hS (by repeat constructor)) (Sep.rdT hS (vs:=ts) (by repeat constructor) (by repeat constructor)) (Sep.rd hS (by repeat constructor)) (Sep.rdT hS (vs:=zs) (by repeat constructor) (by repeat constructor))) ?_;intro wb hS)|(refine zcp 7 (alive_spec _) ?_;intro wb hS)|(with_reducible refine And.intro (a:=OT _ _ _ _ _) (b:=OT _ _ _ _ _) ?_ ?_)|(refine G.drt mixed fun K hK wd hxd=>?_;have hS:=Sep.xx hxd)|with_reducible refine OT_leaf ?_|(with_reducible (refine hK2 _ ?_);clear hK2 K2;intro wd hxd;have hS:=Sep.xx hxd)|with_reducible refine OT_br fun K2 hK2=>?_|(refine hK2 _ _ ?_ ?_<;>clear hK2 K2)|refine G.drg mixed fun K hK=>?_|(refine G.cn ?_ ?_<;>intro hc<;>first|(with_reducible exact False.elim hc)|(exfalso;omega)|skip)))<;>(try clear fct)
  all_goals
    (have fct:=(And.intro @q3 (And.intro @q15 (And.intro @q19 @q20)));(first|refine G.r1 ?_|refine G.r2 ?_|refine G.r3 ?_|refine G.r0 ?_|refine G.d0 ?_);(try simp (disch:=first|exact dis|fail) only [push_cast,↓reduceIte,zq1,zq2,zq3,zq4,zq5,fct]);(try clear fct))
    (first|exact Sep.xt (by assumption)|exact ⟨rfl,Sep.xt (by assumption)⟩)
def textsV (T:MC):MC:=match textsT with
  | .seq a (.seq b (.seq c (.seq d (.seq e _))))=>.seq a (.seq b (.seq c (.seq d (.seq e T))))
  | _=>.skip
theorem textsV_eq:textsT=textsV textsT2:=rfl
set_option maxHeartbeats 4000000 in
theorem texts_tail {va ua vb ub vk r0 r1:Value} {l:List Col} {ra rb T:List (List Val)} {keys:List Str} {D:List Chg} {us1 us2:List Value} {g2 g3 g7 n:Nat} {w wl:World} {u:Fr} (d:Dl) (hd:byD d) (h0:Rd w eC va l) (h1:Rd w eC vb l) (h2:RdT w eVal ub rb) (hk:Rd w eS vk keys)
    (hll:l.length≤12) (hln:∀ c∈l,c.name.length≤40) (hkl:keys.length≤12) (hral:ra.length≤12) (hrl:rb.length≤12) (hfa:∀ r∈ra,SmR r) (hf:∀ r∈rb,SmR r) (hD:diffE l l ra rb keys=.ok D) (hDg:∀ c∈D,SmR c.old∧SmR c.new) (hDl:D.length≤24) (hA:applyM l ra keys D=.ok T) (hTp:T.Perm rb)
    (hck:(checkM (l.map nkC)).2=0) (hrt:rightD d=true) (hrec:∀ v∈rb,(recM v l).2.2=0) (hv:ErrV w) (ht:Tab w)
    (q2:u 2=.pointer (some ⟨g2,0,none⟩)) (q3:u 3=.pointer (some ⟨g3,0,none⟩)) (q7:u 7=.pointer (some ⟨g7,0,none⟩))
    (hS:Sep w wl [boxC g7 41 [va,r0,vb,r1],accC r0 79 eV us1,frzC eVal us1 ra,accC r1 79 eV us2,frzC eVal us2 rb,boxC g2 23 [U d.dl,U d.q,I d.e],boxC g3 30 [va,ua,vb,ub,vk]]) :
    G Tryz.prog Tryz.f3 n [.c textsT] (fun v w'=>v=.bool true∧Ext w w') u wl:=by
  rw [textsV_eq]
  have oa:=h0.one
  have ob:=h1.one
  have o0:=(Sep.rd hS (.t .h)).one
  have o1:=(Sep.rd hS (.t (.t (.t .h)))).one
  have ok:=hk.one
  have hTl:T.length=rb.length:=hTp.length_eq
  have hTg:∀ r∈T,SmR r:=fun r hr=>hf r (hTp.mem_iff.1 hr)
  have fA:∀ i,i < ra.length→FineV (ra.getD i []):=fun i hi=>(hfa _ (getD_mem ra i (by omega))).fine
  have fB:∀ i,i < rb.length→FineV (rb.getD i []):=fun i hi=>(hf _ (getD_mem rb i (by omega))).fine
  have nA:∀ c∈l,c.name.length≤100000000000:=fun c hc=>by have:=hln c hc;omega
  have hdf:=fun (w2:World) (hx:Ext w w2) (ha2:RdT w2 eVal r0 ra) (hb2:RdT w2 eVal r1 rb)=>diff_spec (w:=w2) (h0.ext hx) ha2 (h1.ext hx) hb2 (hk.ext hx) nA nA (by omega) fA fB (by omega) (by omega) (by omega) (ht.ext hx)
  rw [hD] at hdf
  have hap:=fun (w2:World) {v:Value} (hx:Ext w w2) (ha2:RdT w2 eVal r0 ra) (h:RdCs w2 v D)=>apply_spec (w:=w2) (h0.ext hx) ha2 (hk.ext hx) h nA (by omega) fA (fun i hi=>⟨(hDg _ (getD_mem D i (by omega))).1.fine,(hDg _ (getD_mem D i (by omega))).2.fine⟩) (by omega) (by omega) (by omega) (ht.ext hx)
  rw [hA] at hap
  obtain ⟨X,hX,hXl,hXr⟩:=sm_text hd hrt hck hll hln (rows:=T) (by omega) hTg (fun v hv=>hrec v (hTp.mem_iff.1 hv))
  have hwr:=fun (w2:World) {a b:Value} (hx:Ext w w2) (ha:Rd w2 eC a l) (hb:RdT w2 eVal b T)=>write_spec (w:=w2) d hd ha hb (by omega) (fun c hc=>by have:=hln c hc;omega) (sm_rows (by omega) hTg) (ht.ext hx)
  unfold WrV at hwr
  rw [hX] at hwr
  have hrd:=fun (w2:World) {a:Value} (hx:Ext w w2) (ha:Rd w2 eC a l)=>read_spec d 2 X w2 ha hXl (by omega) nA (hv.ext hx)
  rw [hXr 2 (by omega)] at hrd
  have hTe:=fun (a b rv:Value) (us rs:List Value) (g15 g19 n:Nat) (u:Fr) (wl:World)=>@texts_end va ua vb ub vk a b rv l rb T us rs g3 g15 g19 n w wl u h1 h2 hll hrl hf hTp
  clear hX hXr hD hA hDg
  generalize textsT2=T2 at hTe ⊢
  unfold textsV textsT c3
  dsimp only
  (have fct:=(And.intro @q2 (And.intro @q3 @q7));repeat' (first|((with_reducible apply G.a);exact rfl)|refine G.reg fun K hK=>?_|(with_reducible (refine hK _ _ ?_);clear hK K)|(with_reducible (refine hK _ ?_);clear hK K;intro wd hxd;have hS:=Sep.xx hxd)|((first|have hk:=hK|have hk:=hK2);clear hk;simp (disch:=first|exact dis|fail) only [push_cast,↓reduceIte,zq1,zq2,zq3,zq4,zq5,fct])|((first|refine brO_n ?_ ?_|refine brQ_n ?_ ?_)<;>intro hb hc<;>first|(with_reducible exact False.elim hc)|(exfalso;omega)|(simp only [hb];clear hb))|((first|refine zalc ?_|refine zbsl ?_|((with_reducible refine gBox ?_);refine zbox ?_));intro gb wb hS)|((with_reducible refine gSt ?_);refine zs2 ?_;intro wb hS)|(refine zco 8 (hdf _ hS.x (Sep.rdT hS (v:=r0) (vs:=us1) (by repeat constructor) (by repeat constructor)) (Sep.rdT hS (v:=r1) (vs:=us2) (by repeat constructor) (by repeat constructor))) ?_;rintro vb wb ⟨v3,vs3,rfl,hS2⟩;have hS:=hS2.ap;simp only [apps] at hS)|(refine zco 13 (hap _ hS.x (Sep.rdT hS (v:=r0) (vs:=us1) (by repeat constructor) (by repeat constructor)) (Sep.rdCs hS (vs:=vs3) (by repeat constructor) (by repeat constructor))) ?_;rintro vb wb ⟨a,b,us,rfl,hS2⟩;have hS:=hS2.ap;simp only [apps] at hS)|(refine zcp 9 (hwr _ hS.x (Sep.rd hS (by repeat constructor)) (Sep.rdT hS (vs:=us) (by repeat constructor) (by repeat constructor))) ?_;intro wb hS)|(refine zco 10 (hrd _ hS.x (Sep.rd hS (by repeat constructor))) ?_;rintro vb wb ⟨rv,rs,rfl,hS2⟩;have hS:=hS2.ap;simp only [apps] at hS)|(refine G.drt mixed fun K hK wd hxd=>?_;have hS:=Sep.xx hxd)|with_reducible refine OT_leaf ?_|(with_reducible (refine hK2 _ ?_);clear hK2 K2;intro wd hxd;have hS:=Sep.xx hxd)|with_reducible refine OT_br fun K2 hK2=>?_|(refine hK2 _ _ ?_ ?_<;>clear hK2 K2)|refine G.drg mixed fun K hK=>?_|(refine G.cn ?_ ?_<;>intro hc<;>first|(with_reducible exact False.elim hc)|(exfalso;omega)|skip)))<;>(try clear fct)
  all_goals
    exact hTe a b rv us rs _ _ _ _ _ (by (simp only [push_cast,↓reduceIte,zq1,zq2,zq3,zq4,zq5,q2,q3,q7]<;>rfl)) (by (simp only [push_cast,↓reduceIte,zq1,zq2,zq3,zq4,zq5,q2,q3,q7]<;>rfl)) (by (simp only [push_cast,↓reduceIte,zq1,zq2,zq3,zq4,zq5,q2,q3,q7]<;>rfl)) (by (simp only [push_cast,↓reduceIte,zq1,zq2,zq3,zq4,zq5,q2,q3,q7]<;>rfl)) (Sep.sub hS (by repeat first|exact Sub.rfl'|exact Sub.n|exact Sub.nil0|(refine Sub.c (by repeat constructor) ?_)|refine Sub.skip ?_))
end Go.Proofs.YtjajihaeoolefaaGreatDoor
namespace Go.Proofs.YtjajihaeoolefaaGreatDoor
open Nat renaming reduceAdd→zq1,reduceLeDiff→zq2,reduceEqDiff→zq3,reduceLT→zq4
open Int renaming reduceToNat→zq5
set_option linter.unusedSimpArgs false
set_option linter.unusedVariables false
attribute [local irreducible] SemK UnitK StK AlcK BslK CallK CallV Instr.box Builtin.append_ Instr.makeSlice Instr.makeMap Instr.lookup Instr.mapUpdate Instr.sliceAt convert
open Go.RowKit
def eTb:Enc (Value×Value):=⟨2,fun p=>[p.1,p.2],fun _=>rfl⟩
instance : EncSz eTb 2 := ⟨rfl⟩
theorem eTb_f (p:Value×Value):eTb.f p=[p.1,p.2]:=rfl
theorem isL_lit (p:Option Addr) (n c:Nat):isL (.slice p n c)=True:=by simp [isL]
theorem lenV_two (p:Option Addr) (c:Nat):lenV (.slice p 2 c)=I 2:=rfl
attribute [push_cast] eTb_f isL_lit lenV_two
theorem rd_two {w:World} {g:Nat} {t:TypeId} {va ua vb ub:Value} (h:Blk w g t [va,ua,vb,ub].toArray) (h1:One va) (h2:One ua) (h3:One vb) (h4:One ub):Rd w eTb (.slice (some ⟨g,0,none⟩) 2 2) [(va,ua),(vb,ub)] :=
  blk_rd (E:=eTb) (ys:=[(va,ua),(vb,ub)]) h rfl (Nat.le_refl _) (by simp) (fun u hu=>by
    simp [eTb] at hu
    rcases hu with rfl|rfl|rfl|rfl
    · exact h1
    · exact h2
    · exact h3
    · exact h4)
attribute [local irreducible] accC boxC frzC frzG
def textsL (T:MC):MC:=match c3 with
  | .seq _ (.seq _ (.seq _ (.seq d (.seq e _))))=>.seq d (.seq e T)
  | _=>.skip
set_option maxHeartbeats 4000000 in
theorem texts_loop {va ua vb ub vk:Value} {l:List Col} {ra rb T:List (List Val)} {keys:List Str} {D:List Chg} {g2 g3 n:Nat} {w wl:World} {u:Fr} (d:Dl) (hd:byD d) (h0:Rd w eC va l) (ha2:RdT w eVal ua ra) (h1:Rd w eC vb l) (h2:RdT w eVal ub rb) (hk:Rd w eS vk keys)
    (hll:l.length≤12) (hln:∀ c∈l,c.name.length≤40) (hkl:keys.length≤12) (hral:ra.length≤12) (hrl:rb.length≤12) (hfa:∀ r∈ra,SmR r) (hf:∀ r∈rb,SmR r) (hD:diffE l l ra rb keys=.ok D) (hDg:∀ c∈D,SmR c.old∧SmR c.new) (hDl:D.length≤24) (hA:applyM l ra keys D=.ok T) (hTp:T.Perm rb)
    (hck:(checkM (l.map nkC)).2=0) (hrt:rightD d=true) (hv:ErrV w) (ht:Tab w)
    (q2:u 2=.pointer (some ⟨g2,0,none⟩)) (q3:u 3=.pointer (some ⟨g3,0,none⟩)) (hS:Sep w wl [boxC g2 23 [U d.dl,U d.q,I d.e],boxC g3 30 [va,ua,vb,ub,vk]]) :
    G Tryz.prog Tryz.f3 n [.c (textsL textsT)] (fun v w'=>v=.bool true∧Ext w w') u wl:=by
  have hTl:=fun (hrec) (r0 r1:Value) (us1 us2:List Value) (g2 g3 g7 n:Nat) (u:Fr) (wl:World)=>@texts_tail va ua vb ub vk r0 r1 l ra rb T keys D us1 us2 g2 g3 g7 n w wl u d hd h0 h1 h2 hk hll hln hkl hral hrl hfa hf hD hDg hDl hA hTp hck hrt hrec hv ht
  clear hD hA hDg
  have oa:=h0.one
  have ob:=h1.one
  have ok:=hk.one
  have oa2:One ua:=by obtain ⟨vs,h,_⟩:=ha2;exact h.one
  have ob2:One ub:=by obtain ⟨vs,h,_⟩:=h2;exact h.one
  have nA:∀ c∈l,c.name.length≤100000000000:=fun c hc=>by have:=hln c hc;omega
  have hwa:=fun (w2:World) (hx:Ext w w2)=>write_spec (w:=w2) d hd (h0.ext hx) (ha2.ext hx) (by omega) (fun c hc=>by have:=hln c hc;omega) (sm_rows (by omega) hfa) (ht.ext hx)
  have hwb:=fun (w2:World) (hx:Ext w w2)=>write_spec (w:=w2) d hd (h1.ext hx) (h2.ext hx) (by omega) (fun c hc=>by have:=hln c hc;omega) (sm_rows (by omega) hf) (ht.ext hx)
  have rl:∀ (L:List (List Val)),(∀ r∈L,SmR r)→∀ i,i < L.length→(L.getD i []).length≤1000000000:=fun L hL i hi=>by
    have:=(hL _ (getD_mem L i (by omega))).2
    have hd:L.getD i default=L.getD i []:=rfl
    rw [hd] at this;omega
  have na:=rl ra hfa
  have nb:=rl rb hf
  have haa:decide (ra=ra)=true:=decide_eq_true rfl
  have hbb:decide (rb=rb)=true:=decide_eq_true rfl
  unfold WrV at hwa hwb
  generalize textsT=T2 at hTl ⊢
  unfold textsL c3
  dsimp only
  (have fct:=(And.intro @q2 @q3);repeat' (first|((with_reducible apply G.a);exact rfl)|refine G.reg fun K hK=>?_|(with_reducible (refine hK _ _ ?_);clear hK K)|(with_reducible (refine hK _ ?_);clear hK K;intro wd hxd;have hS:=Sep.xx hxd)|((first|have hk:=hK|have hk:=hK2);clear hk;simp (disch:=first|exact dis|fail) only [push_cast,↓reduceIte,zq1,zq2,zq3,zq4,zq5,fct])|((first|refine brO_n ?_ ?_|refine brQ_n ?_ ?_)<;>intro hb hc<;>first|(with_reducible exact False.elim hc)|(exfalso;omega)|(simp only [hb];clear hb))|((first|refine zalc ?_|refine zbsl ?_|((with_reducible refine gBox ?_);refine zbox ?_));intro gb wb hS)|((with_reducible refine gSt ?_);refine zs2 ?_;intro wb hS)|(refine G.drt mixed fun K hK wd hxd=>?_;have hS:=Sep.xx hxd)|with_reducible refine OT_leaf ?_|(with_reducible (refine hK2 _ ?_);clear hK2 K2;intro wd hxd;have hS:=Sep.xx hxd)|with_reducible refine OT_br fun K2 hK2=>?_|(refine hK2 _ _ ?_ ?_<;>clear hK2 K2)|refine G.drg mixed fun K hK=>?_|(refine G.cn ?_ ?_<;>intro hc<;>first|(with_reducible exact False.elim hc)|(exfalso;omega)|skip)))<;>(try clear fct)
  all_goals
  refine G.loop (fun r w'=>∃ (g2 g3 g7 g48:Nat),r 49=I 2∧r 48=.slice (some ⟨g48,0,none⟩) 2 2∧r 7=.pointer (some ⟨g7,0,none⟩)∧r 2=.pointer (some ⟨g2,0,none⟩)∧r 3=.pointer (some ⟨g3,0,none⟩) ∧
      ((r 50=I 0∧Sep w w' [boxC g48 27 [va,ua,vb,ub],boxC g7 41 [.slice none 0 0,.slice none 0 0,.slice none 0 0,.slice none 0 0],boxC g2 23 [U d.dl,U d.q,I d.e],boxC g3 30 [va,ua,vb,ub,vk]]) ∨
       (r 50=I 1∧∃ (r0:Value) (us1:List Value),Sep w w' [boxC g48 27 [va,ua,vb,ub],boxC g7 41 [va,r0,.slice none 0 0,.slice none 0 0],accC r0 79 eV us1,frzC eVal us1 ra,boxC g2 23 [U d.dl,U d.q,I d.e],boxC g3 30 [va,ua,vb,ub,vk]]) ∨
       (r 50=I 2∧(∀ v∈rb,(recM v l).2.2=0)∧∃ (r0 r1:Value) (us1 us2:List Value),Sep w w' [boxC g7 41 [va,r0,vb,r1],accC r0 79 eV us1,frzC eVal us1 ra,accC r1 79 eV us2,frzC eVal us2 rb,boxC g2 23 [U d.dl,U d.q,I d.e],boxC g3 30 [va,ua,vb,ub,vk]]))) (fun r _=>2 - toN (r 50)) ?_ ?_
  · exact ⟨_,_,_,_,(by (simp only [push_cast,↓reduceIte,zq1,zq2,zq3,zq4,zq5,q2,q3]<;>rfl)),(by (simp only [push_cast,↓reduceIte,zq1,zq2,zq3,zq4,zq5,q2,q3]<;>rfl)),(by (simp only [push_cast,↓reduceIte,zq1,zq2,zq3,zq4,zq5,q2,q3]<;>rfl)),(by (simp only [push_cast,↓reduceIte,zq1,zq2,zq3,zq4,zq5,q2,q3]<;>rfl)),(by (simp only [push_cast,↓reduceIte,zq1,zq2,zq3,zq4,zq5,q2,q3]<;>rfl)),.inl ⟨(by (simp only [push_cast,↓reduceIte,zq1,zq2,zq3,zq4,zq5,q2,q3]<;>rfl)),(Sep.sub hS (by repeat first|exact Sub.rfl'|exact Sub.n|exact Sub.nil0|(refine Sub.c (by repeat constructor) ?_)|refine Sub.skip ?_))⟩⟩
  · clear hS q2 q3
    rintro u wl ⟨g2,g3,g7,g48,q49,q48,q7,q2,q3,hI⟩ ih
    rcases hI with ⟨q50,hS⟩|⟨q50,r0,us1,hS⟩|⟨q50,hrec,r0,r1,us1,us2,hS⟩
    · have hR:=rd_two (Sep.blk hS .h) oa oa2 ob ob2
      have hm:toN (u 50)=0:=by rw [q50];rfl
      have hgood:=writeM_good d l ra
      by_cases hka:(writeM d l ra).2.k=0
      rotate_left
      · generalize writeM d l ra=W at *
        (have fct:=(And.intro @q50 (And.intro @q49 (And.intro @q48 (And.intro @q7 (And.intro @q2 @q3)))));repeat' (first|((with_reducible apply G.a);exact rfl)|refine G.reg fun K hK=>?_|(with_reducible (refine hK _ _ ?_);clear hK K)|(with_reducible (refine hK _ ?_);clear hK K;intro wd hxd;have hS:=Sep.xx hxd)|((first|have hk:=hK|have hk:=hK2);clear hk;simp (disch:=first|exact dis|fail) only [push_cast,↓reduceIte,zq1,zq2,zq3,zq4,zq5,fct])|((first|refine brO_n ?_ ?_|refine brQ_n ?_ ?_)<;>intro hb hc<;>first|(with_reducible exact False.elim hc)|(exfalso;omega)|(simp only [hb];clear hb))|((first|refine zalc ?_|refine zbsl ?_|((with_reducible refine gBox ?_);refine zbox ?_));intro gb wb hS)|((with_reducible refine gSt ?_);refine zs2 ?_;intro wb hS)|(refine zcp 9 (hwa _ hS.x) ?_;intro wb hS)|(refine zcp 7 (alive_spec _) ?_;intro wb hS)|(refine G.drt mixed fun K hK wd hxd=>?_;have hS:=Sep.xx hxd)|with_reducible refine OT_leaf ?_|(with_reducible (refine hK2 _ ?_);clear hK2 K2;intro wd hxd;have hS:=Sep.xx hxd)|with_reducible refine OT_br fun K2 hK2=>?_|(refine hK2 _ _ ?_ ?_<;>clear hK2 K2)|refine G.drg mixed fun K hK=>?_|(refine G.cn ?_ ?_<;>intro hc<;>first|(with_reducible exact False.elim hc)|(exfalso;omega)|skip)))<;>(try clear fct)
        all_goals first
          | (exfalso;omega)
          | ((have fct:=(And.intro @q50 (And.intro @q49 (And.intro @q48 (And.intro @q7 (And.intro @q2 @q3)))));(first|refine G.r1 ?_|refine G.r2 ?_|refine G.r3 ?_|refine G.r0 ?_|refine G.d0 ?_);(try simp (disch:=first|exact dis|fail) only [push_cast,↓reduceIte,zq1,zq2,zq3,zq4,zq5,fct]);(try clear fct));(first|exact Sep.xt (by assumption)|exact ⟨rfl,Sep.xt (by assumption)⟩))
      · obtain ⟨X,hX,hXl,hXr⟩:=sm_text hd hrt hck hll hln (rows:=ra) (by omega) hfa (hgood hka).2.2.1
        rw [hX] at hwa
        have hrd:=fun (w2:World) (hx:Ext w w2)=>read_spec d 1 X w2 (h0.ext hx) hXl (by omega) nA (hv.ext hx)
        rw [hXr 1 (by omega)] at hrd
        clear hX hXr hgood hka
        (have fct:=(And.intro @q50 (And.intro @q49 (And.intro @q48 (And.intro @q7 (And.intro @q2 (And.intro @q3 @haa))))));repeat' (first|((with_reducible apply G.a);exact rfl)|refine G.reg fun K hK=>?_|(with_reducible (refine hK _ _ ?_);clear hK K)|(with_reducible (refine hK _ ?_);clear hK K;intro wd hxd;have hS:=Sep.xx hxd)|((first|have hk:=hK|have hk:=hK2);clear hk;simp (disch:=first|exact dis|fail) only [push_cast,↓reduceIte,zq1,zq2,zq3,zq4,zq5,fct])|((first|refine brO_n ?_ ?_|refine brQ_n ?_ ?_)<;>intro hb hc<;>first|(with_reducible exact False.elim hc)|(exfalso;omega)|(simp only [hb];clear hb))|((first|refine zalc ?_|refine zbsl ?_|((with_reducible refine gBox ?_);refine zbox ?_));intro gb wb hS)|((with_reducible refine gSt ?_);refine zs2 ?_;intro wb hS)|(refine zcp 9 (hwa _ hS.x) ?_;intro wb hS)|(refine zco 10 (hrd _ hS.x) ?_;rintro vb wb ⟨rv,rs,rfl,hS2⟩;have hS:=hS2.ap;simp only [apps] at hS)|((with_reducible (show CallK _ 12 [ua] _ _ _ _));refine zco 12 (rows20_spec ref17_spec (ha2.ext hS.x) (by omega) na) ?_;rintro vx wb ⟨us,hS2⟩;have hS:=hS2.ap;simp only [apps] at hS)|((with_reducible (show CallK _ 12 [rv] _ _ _ _));refine zco 12 (rows20_spec ref17_spec (t:=ra) (Sep.rdT (v:=rv) (vs:=rs) hS (by repeat constructor) (by repeat constructor)) (by omega) na) ?_;rintro vy wb ⟨us2,hS2⟩;have hS:=hS2.ap;simp only [apps] at hS)|(refine zcp 11 (all20_spec (a:=ra) (b:=ra) (Sep.rdT hS (.t (.t .h)) (.t (.t (.t .h)))) (Sep.rdT hS .h (.t .h))) ?_;intro wb hS)|(with_reducible refine And.intro (a:=OT _ _ _ _ _) (b:=OT _ _ _ _ _) ?_ ?_)|(refine G.drt mixed fun K hK wd hxd=>?_;have hS:=Sep.xx hxd)|with_reducible refine OT_leaf ?_|(with_reducible (refine hK2 _ ?_);clear hK2 K2;intro wd hxd;have hS:=Sep.xx hxd)|with_reducible refine OT_br fun K2 hK2=>?_|(refine hK2 _ _ ?_ ?_<;>clear hK2 K2)|refine G.drg mixed fun K hK=>?_|(refine G.cn ?_ ?_<;>intro hc<;>first|(with_reducible exact False.elim hc)|(exfalso;omega)|skip)))<;>(try clear fct)
        all_goals
          refine ih _ _ ⟨g2,g3,g7,g48,(by (simp only [push_cast,↓reduceIte,zq1,zq2,zq3,zq4,zq5,q50,q49,q48,q7,q2,q3]<;>rfl)),(by (simp only [push_cast,↓reduceIte,zq1,zq2,zq3,zq4,zq5,q50,q49,q48,q7,q2,q3]<;>rfl)),(by (simp only [push_cast,↓reduceIte,zq1,zq2,zq3,zq4,zq5,q50,q49,q48,q7,q2,q3]<;>rfl)),(by (simp only [push_cast,↓reduceIte,zq1,zq2,zq3,zq4,zq5,q50,q49,q48,q7,q2,q3]<;>rfl)),(by (simp only [push_cast,↓reduceIte,zq1,zq2,zq3,zq4,zq5,q50,q49,q48,q7,q2,q3]<;>rfl)),.inr (.inl ⟨(by (simp only [push_cast,↓reduceIte,zq1,zq2,zq3,zq4,zq5,q50,q49,q48,q7,q2,q3]<;>rfl)),rv,rs,(Sep.sub hS (by repeat first|exact Sub.rfl'|exact Sub.n|exact Sub.nil0|(refine Sub.c (by repeat constructor) ?_)|refine Sub.skip ?_))⟩)⟩ ?_
          rw [hm];simp only [push_cast,↓reduceIte,zq1,zq2,zq3,zq4,zq5,toN_i,q50,q49,q48,q7,q2,q3];decide
    · have hR:=rd_two (Sep.blk hS .h) oa oa2 ob ob2
      have hm:toN (u 50)=1:=by rw [q50];rfl
      have hgood:=writeM_good d l rb
      by_cases hkb:(writeM d l rb).2.k=0
      rotate_left
      · generalize writeM d l rb=W at *
        (have fct:=(And.intro @q50 (And.intro @q49 (And.intro @q48 (And.intro @q7 (And.intro @q2 @q3)))));repeat' (first|((with_reducible apply G.a);exact rfl)|refine G.reg fun K hK=>?_|(with_reducible (refine hK _ _ ?_);clear hK K)|(with_reducible (refine hK _ ?_);clear hK K;intro wd hxd;have hS:=Sep.xx hxd)|((first|have hk:=hK|have hk:=hK2);clear hk;simp (disch:=first|exact dis|fail) only [push_cast,↓reduceIte,zq1,zq2,zq3,zq4,zq5,fct])|((first|refine brO_n ?_ ?_|refine brQ_n ?_ ?_)<;>intro hb hc<;>first|(with_reducible exact False.elim hc)|(exfalso;omega)|(simp only [hb];clear hb))|((first|refine zalc ?_|refine zbsl ?_|((with_reducible refine gBox ?_);refine zbox ?_));intro gb wb hS)|((with_reducible refine gSt ?_);refine zs2 ?_;intro wb hS)|(refine zcp 9 (hwb _ hS.x) ?_;intro wb hS)|(refine zcp 7 (alive_spec _) ?_;intro wb hS)|(refine G.drt mixed fun K hK wd hxd=>?_;have hS:=Sep.xx hxd)|with_reducible refine OT_leaf ?_|(with_reducible (refine hK2 _ ?_);clear hK2 K2;intro wd hxd;have hS:=Sep.xx hxd)|with_reducible refine OT_br fun K2 hK2=>?_|(refine hK2 _ _ ?_ ?_<;>clear hK2 K2)|refine G.drg mixed fun K hK=>?_|(refine G.cn ?_ ?_<;>intro hc<;>first|(with_reducible exact False.elim hc)|(exfalso;omega)|skip)))<;>(try clear fct)
        all_goals first
          | (exfalso;omega)
          | ((have fct:=(And.intro @q50 (And.intro @q49 (And.intro @q48 (And.intro @q7 (And.intro @q2 @q3)))));(first|refine G.r1 ?_|refine G.r2 ?_|refine G.r3 ?_|refine G.r0 ?_|refine G.d0 ?_);(try simp (disch:=first|exact dis|fail) only [push_cast,↓reduceIte,zq1,zq2,zq3,zq4,zq5,fct]);(try clear fct));(first|exact Sep.xt (by assumption)|exact ⟨rfl,Sep.xt (by assumption)⟩))
      · have hrec:=(hgood hkb).2.2.1
        obtain ⟨X,hX,hXl,hXr⟩:=sm_text hd hrt hck hll hln (rows:=rb) (by omega) hf hrec
        rw [hX] at hwb
        have hrd:=fun (w2:World) (hx:Ext w w2)=>read_spec d 1 X w2 (h1.ext hx) hXl (by omega) nA (hv.ext hx)
        rw [hXr 1 (by omega)] at hrd
        clear hX hXr hgood hkb
        (have fct:=(And.intro @q50 (And.intro @q49 (And.intro @q48 (And.intro @q7 (And.intro @q2 (And.intro @q3 @hbb))))));repeat' (first|((with_reducible apply G.a);exact rfl)|refine G.reg fun K hK=>?_|(with_reducible (refine hK _ _ ?_);clear hK K)|(with_reducible (refine hK _ ?_);clear hK K;intro wd hxd;have hS:=Sep.xx hxd)|((first|have hk:=hK|have hk:=hK2);clear hk;simp (disch:=first|exact dis|fail) only [push_cast,↓reduceIte,zq1,zq2,zq3,zq4,zq5,fct])|((first|refine brO_n ?_ ?_|refine brQ_n ?_ ?_)<;>intro hb hc<;>first|(with_reducible exact False.elim hc)|(exfalso;omega)|(simp only [hb];clear hb))|((first|refine zalc ?_|refine zbsl ?_|((with_reducible refine gBox ?_);refine zbox ?_));intro gb wb hS)|((with_reducible refine gSt ?_);refine zs2 ?_;intro wb hS)|(refine zcp 9 (hwb _ hS.x) ?_;intro wb hS)|(refine zco 10 (hrd _ hS.x) ?_;rintro vb wb ⟨rv,rs,rfl,hS2⟩;have hS:=hS2.ap;simp only [apps] at hS)|((with_reducible (show CallK _ 12 [ub] _ _ _ _));refine zco 12 (rows20_spec ref17_spec (h2.ext hS.x) (by omega) nb) ?_;rintro vx wb ⟨us,hS2⟩;have hS:=hS2.ap;simp only [apps] at hS)|((with_reducible (show CallK _ 12 [rv] _ _ _ _));refine zco 12 (rows20_spec ref17_spec (t:=rb) (Sep.rdT (v:=rv) (vs:=rs) hS (by repeat constructor) (by repeat constructor)) (by omega) nb) ?_;rintro vy wb ⟨us2,hS2⟩;have hS:=hS2.ap;simp only [apps] at hS)|(refine zcp 11 (all20_spec (a:=rb) (b:=rb) (Sep.rdT hS (.t (.t .h)) (.t (.t (.t .h)))) (Sep.rdT hS .h (.t .h))) ?_;intro wb hS)|(with_reducible refine And.intro (a:=OT _ _ _ _ _) (b:=OT _ _ _ _ _) ?_ ?_)|(refine G.drt mixed fun K hK wd hxd=>?_;have hS:=Sep.xx hxd)|with_reducible refine OT_leaf ?_|(with_reducible (refine hK2 _ ?_);clear hK2 K2;intro wd hxd;have hS:=Sep.xx hxd)|with_reducible refine OT_br fun K2 hK2=>?_|(refine hK2 _ _ ?_ ?_<;>clear hK2 K2)|refine G.drg mixed fun K hK=>?_|(refine G.cn ?_ ?_<;>intro hc<;>first|(with_reducible exact False.elim hc)|(exfalso;omega)|skip)))<;>(try clear fct)
        all_goals
          refine ih _ _ ⟨g2,g3,g7,g48,(by (simp only [push_cast,↓reduceIte,zq1,zq2,zq3,zq4,zq5,q50,q49,q48,q7,q2,q3]<;>rfl)),(by (simp only [push_cast,↓reduceIte,zq1,zq2,zq3,zq4,zq5,q50,q49,q48,q7,q2,q3]<;>rfl)),(by (simp only [push_cast,↓reduceIte,zq1,zq2,zq3,zq4,zq5,q50,q49,q48,q7,q2,q3]<;>rfl)),(by (simp only [push_cast,↓reduceIte,zq1,zq2,zq3,zq4,zq5,q50,q49,q48,q7,q2,q3]<;>rfl)),(by (simp only [push_cast,↓reduceIte,zq1,zq2,zq3,zq4,zq5,q50,q49,q48,q7,q2,q3]<;>rfl)),.inr (.inr ⟨(by (simp only [push_cast,↓reduceIte,zq1,zq2,zq3,zq4,zq5,q50,q49,q48,q7,q2,q3]<;>rfl)),hrec,r0,rv,us1,rs,(Sep.sub hS (by repeat first|exact Sub.rfl'|exact Sub.n|exact Sub.nil0|(refine Sub.c (by repeat constructor) ?_)|refine Sub.skip ?_))⟩)⟩ ?_
          rw [hm];simp only [push_cast,↓reduceIte,zq1,zq2,zq3,zq4,zq5,toN_i,q50,q49,q48,q7,q2,q3];decide
    · clear ih
      (have fct:=(And.intro @q50 (And.intro @q49 (And.intro @q48 (And.intro @q7 (And.intro @q2 @q3)))));repeat' (first|((with_reducible apply G.a);exact rfl)|refine G.reg fun K hK=>?_|(with_reducible (refine hK _ _ ?_);clear hK K)|(with_reducible (refine hK _ ?_);clear hK K;intro wd hxd;have hS:=Sep.xx hxd)|((first|have hk:=hK|have hk:=hK2);clear hk;simp (disch:=first|exact dis|fail) only [push_cast,↓reduceIte,zq1,zq2,zq3,zq4,zq5,fct])|((first|refine brO_n ?_ ?_|refine brQ_n ?_ ?_)<;>intro hb hc<;>first|(with_reducible exact False.elim hc)|(exfalso;omega)|(simp only [hb];clear hb))|((first|refine zalc ?_|refine zbsl ?_|((with_reducible refine gBox ?_);refine zbox ?_));intro gb wb hS)|((with_reducible refine gSt ?_);refine zs2 ?_;intro wb hS)|(refine G.drt mixed fun K hK wd hxd=>?_;have hS:=Sep.xx hxd)|with_reducible refine OT_leaf ?_|(with_reducible (refine hK2 _ ?_);clear hK2 K2;intro wd hxd;have hS:=Sep.xx hxd)|with_reducible refine OT_br fun K2 hK2=>?_|(refine hK2 _ _ ?_ ?_<;>clear hK2 K2)|refine G.drg mixed fun K hK=>?_|(refine G.cn ?_ ?_<;>intro hc<;>first|(with_reducible exact False.elim hc)|(exfalso;omega)|skip)))<;>(try clear fct)
      all_goals
        exact hTl hrec r0 r1 us1 us2 g2 g3 g7 _ _ _ (by (simp only [push_cast,↓reduceIte,zq1,zq2,zq3,zq4,zq5,q50,q49,q48,q7,q2,q3]<;>rfl)) (by (simp only [push_cast,↓reduceIte,zq1,zq2,zq3,zq4,zq5,q50,q49,q48,q7,q2,q3]<;>rfl)) (by (simp only [push_cast,↓reduceIte,zq1,zq2,zq3,zq4,zq5,q50,q49,q48,q7,q2,q3]<;>rfl)) (Sep.sub hS (by repeat first|exact Sub.rfl'|exact Sub.n|exact Sub.nil0|(refine Sub.c (by repeat constructor) ?_)|refine Sub.skip ?_))
def textsC (T:MC):MC:=match c3 with
  | .seq a (.seq b (.seq c _))=>.seq a (.seq b (.seq c T))
  | _=>.skip
theorem textsC_eq:c3=textsC (textsL textsT):=rfl
theorem rowsE_ok {la lb:List Col} {ra rb:List (List Val)} {keys:List Str} {D:List Chg} (h:diffE la lb ra rb keys=.ok D):la=lb∧KeysOk la keys∧RowsOk la.length (placesM la keys) ra∧RowsOk la.length (placesM la keys) rb∧D=difM (placesM la keys) ra rb:=by
  unfold diffE at h
  cases hs:eqD la lb
  · rw [hs,if_pos rfl] at h;cases h
  rw [hs,if_neg (by simp)] at h
  have hlab:la=lb:=eqD_eq hs
  subst hlab
  by_cases h1:(dchkM la ra keys).2=0
  rotate_left
  · rw [if_pos h1] at h;cases h
  rw [if_neg (not_not_intro h1)] at h
  by_cases h2:(dchkM la rb keys).2=0
  rotate_left
  · rw [if_pos h2] at h;cases h
  rw [if_neg (not_not_intro h2)] at h
  obtain ⟨a1,a2⟩:=(dchk_iff _ _ _).1 h1
  obtain ⟨b1,b2⟩:=(dchk_iff _ _ _).1 h2
  cases h
  exact ⟨rfl,a1,a2,b2,rfl⟩
set_option maxHeartbeats 4000000 in
theorem law_texts {va ua vb ub vk:Value} {la lb:List Col} {ra rb:List (List Val)} {keys:List Str} {w:World} (d:Dl) (hd:byD d) (ha:Rd w eC va la) (ha2:RdT w eVal ua ra) (hb:Rd w eC vb lb) (hb2:RdT w eVal ub rb) (hk:Rd w eS vk keys)
    (hra:∀ r∈ra,∀ v∈r,i64M v.n) (hrb:∀ r∈rb,∀ v∈r,i64M v.n) (hv:ErrV w) (ht:Tab w) :
    Pu Tryz.prog 3 #[(.agg #[U d.dl,U d.q,I d.e]),.agg #[va,ua,vb,ub,vk]] w (.bool true):=by
  refine in3 ?_
  rw [textsC_eq]
  have hS:=Sep.start w
  have oa:=ha.one
  have ob:=hb.one
  have ok:=hk.one
  have oa2:One ua:=by obtain ⟨vs,h,_⟩:=ha2;exact h.one
  have ob2:One ub:=by obtain ⟨vs,h,_⟩:=hb2;exact h.one
  have hft1:=fun (w2:World) (hx:Ext w w2)=>fits25_spec (w:=w2) (ha.ext hx) (ha2.ext hx) (hb.ext hx) (hb2.ext hx) (hk.ext hx)
  have hTl:=fun (n:Nat) (u:Fr) (wl:World) (l:List Col) (T:List (List Val)) (D:List Chg) (g2 g3:Nat) h0 h1=>@texts_loop va ua vb ub vk l ra rb T keys D g2 g3 n w wl u d hd h0 ha2 h1 hb2 hk
  generalize textsL textsT=T at hTl ⊢
  unfold textsC c3
  dsimp only
  cases hF:fits25M la ra lb rb keys
  · rw [hF] at hft1
    repeat' (first|((with_reducible apply G.a);exact rfl)|refine G.reg fun K hK=>?_|(with_reducible (refine hK _ _ ?_);clear hK K)|(with_reducible (refine hK _ ?_);clear hK K;intro wd hxd;have hS:=Sep.xx hxd)|((first|have hk:=hK|have hk:=hK2);clear hk;simp (disch:=first|exact dis|fail) only [push_cast,↓reduceIte,zq1,zq2,zq3,zq4,zq5,fct])|((first|refine brO_n ?_ ?_|refine brQ_n ?_ ?_)<;>intro hb hc<;>first|(with_reducible exact False.elim hc)|(exfalso;omega)|(simp only [hb];clear hb))|((first|refine zalc ?_|refine zbsl ?_|((with_reducible refine gBox ?_);refine zbox ?_));intro gb wb hS)|((with_reducible refine gSt ?_);refine zs2 ?_;intro wb hS)|(refine zcp 4 (hft1 _ hS.x) ?_;intro wb hS)|(refine zcp 7 (alive_spec _) ?_;intro wb hS)|(refine zcp 6 (refD_spec d hd _) ?_;intro wb hS)|(refine zcp 5 (rightR_spec d hd _) ?_;intro wb hS)|(refine G.drt mixed fun K hK wd hxd=>?_;have hS:=Sep.xx hxd)|with_reducible refine OT_leaf ?_|(with_reducible (refine hK2 _ ?_);clear hK2 K2;intro wd hxd;have hS:=Sep.xx hxd)|with_reducible refine OT_br fun K2 hK2=>?_|(refine hK2 _ _ ?_ ?_<;>clear hK2 K2)|refine G.drg mixed fun K hK=>?_|(refine G.cn ?_ ?_<;>intro hc<;>first|(with_reducible exact False.elim hc)|(exfalso;omega)|skip))
    all_goals
      (first|refine G.r1 ?_|refine G.r2 ?_|refine G.r3 ?_|refine G.r0 ?_|refine G.d0 ?_);(try simp (disch:=first|exact dis|fail) only [push_cast,↓reduceIte,zq1,zq2,zq3,zq4,zq5,fct])
      (first|exact Sep.xt (by assumption)|exact ⟨rfl,Sep.xt (by assumption)⟩)
  rw [hF] at hft1
  cases hr:rightD d
  · (have fct:=@hr;repeat' (first|((with_reducible apply G.a);exact rfl)|refine G.reg fun K hK=>?_|(with_reducible (refine hK _ _ ?_);clear hK K)|(with_reducible (refine hK _ ?_);clear hK K;intro wd hxd;have hS:=Sep.xx hxd)|((first|have hk:=hK|have hk:=hK2);clear hk;simp (disch:=first|exact dis|fail) only [push_cast,↓reduceIte,zq1,zq2,zq3,zq4,zq5,fct])|((first|refine brO_n ?_ ?_|refine brQ_n ?_ ?_)<;>intro hb hc<;>first|(with_reducible exact False.elim hc)|(exfalso;omega)|(simp only [hb];clear hb))|((first|refine zalc ?_|refine zbsl ?_|((with_reducible refine gBox ?_);refine zbox ?_));intro gb wb hS)|((with_reducible refine gSt ?_);refine zs2 ?_;intro wb hS)|(refine zcp 4 (hft1 _ hS.x) ?_;intro wb hS)|(refine zcp 7 (alive_spec _) ?_;intro wb hS)|(refine zcp 6 (refD_spec d hd _) ?_;intro wb hS)|(refine zcp 5 (rightR_spec d hd _) ?_;intro wb hS)|(refine G.drt mixed fun K hK wd hxd=>?_;have hS:=Sep.xx hxd)|with_reducible refine OT_leaf ?_|(with_reducible (refine hK2 _ ?_);clear hK2 K2;intro wd hxd;have hS:=Sep.xx hxd)|with_reducible refine OT_br fun K2 hK2=>?_|(refine hK2 _ _ ?_ ?_<;>clear hK2 K2)|refine G.drg mixed fun K hK=>?_|(refine G.cn ?_ ?_<;>intro hc<;>first|(with_reducible exact False.elim hc)|(exfalso;omega)|skip)))<;>(try clear fct)
    all_goals
      (first|refine G.r1 ?_|refine G.r2 ?_|refine G.r3 ?_|refine G.r0 ?_|refine G.d0 ?_);(try simp (disch:=first|exact dis|fail) only [push_cast,↓reduceIte,zq1,zq2,zq3,zq4,zq5,fct])
      (first|exact Sep.xt (by assumption)|exact ⟨rfl,Sep.xt (by assumption)⟩)
  unfold fits25M at hF
  rw [Bool.and_eq_true,Bool.and_eq_true,Bool.and_eq_true,decide_eq_true_eq] at hF
  obtain ⟨⟨l1,l2⟩,l3,l4⟩:=few23_len hF.2.1
  obtain ⟨⟨m1,m2⟩,m3,m4⟩:=few23_len hF.2.2.1
  have hkl:=hF.2.2.2
  have gra:∀ r∈ra,SmR r:=fun r hr=>⟨fun v hv=>⟨hra r hr v hv,(l4 r hr).2 v hv⟩,(l4 r hr).1⟩
  have grb:∀ r∈rb,SmR r:=fun r hr=>⟨fun v hv=>⟨hrb r hr v hv,(m4 r hr).2 v hv⟩,(m4 r hr).1⟩
  have fA:∀ i,i < ra.length→FineV (ra.getD i []):=fun i hi=>(gra _ (getD_mem ra i (by omega))).fine
  have fB:∀ i,i < rb.length→FineV (rb.getD i []):=fun i hi=>(grb _ (getD_mem rb i (by omega))).fine
  have nA:∀ c∈la,c.name.length≤100000000000:=fun c hc=>by have:=l2 c hc;omega
  have nB:∀ c∈lb,c.name.length≤100000000000:=fun c hc=>by have:=m2 c hc;omega
  have hd1:=fun (w2:World) (hx:Ext w w2)=>diff_spec (w:=w2) (ha.ext hx) (ha2.ext hx) (hb.ext hx) (hb2.ext hx) (hk.ext hx) nA nB (by omega) fA fB (by omega) (by omega) (by omega) (ht.ext hx)
  cases hX:diffE la lb ra rb keys with
  | error e1 =>
    rw [hX] at hd1
    (have fct:=@hr;repeat' (first|((with_reducible apply G.a);exact rfl)|refine G.reg fun K hK=>?_|(with_reducible (refine hK _ _ ?_);clear hK K)|(with_reducible (refine hK _ ?_);clear hK K;intro wd hxd;have hS:=Sep.xx hxd)|((first|have hk:=hK|have hk:=hK2);clear hk;simp (disch:=first|exact dis|fail) only [push_cast,↓reduceIte,zq1,zq2,zq3,zq4,zq5,fct])|((first|refine brO_n ?_ ?_|refine brQ_n ?_ ?_)<;>intro hb hc<;>first|(with_reducible exact False.elim hc)|(exfalso;omega)|(simp only [hb];clear hb))|((first|refine zalc ?_|refine zbsl ?_|((with_reducible refine gBox ?_);refine zbox ?_));intro gb wb hS)|((with_reducible refine gSt ?_);refine zs2 ?_;intro wb hS)|(refine zcp 4 (hft1 _ hS.x) ?_;intro wb hS)|(refine zcp 7 (alive_spec _) ?_;intro wb hS)|(refine zcp 6 (refD_spec d hd _) ?_;intro wb hS)|(refine zcp 5 (rightR_spec d hd _) ?_;intro wb hS)|(refine zco 8 (hd1 _ hS.x) ?_;(rintro vb wb ⟨hpe,rfl,hxx⟩;have hS:=Sep.xx hxx))|(refine G.drt mixed fun K hK wd hxd=>?_;have hS:=Sep.xx hxd)|with_reducible refine OT_leaf ?_|(with_reducible (refine hK2 _ ?_);clear hK2 K2;intro wd hxd;have hS:=Sep.xx hxd)|with_reducible refine OT_br fun K2 hK2=>?_|(refine hK2 _ _ ?_ ?_<;>clear hK2 K2)|refine G.drg mixed fun K hK=>?_|(refine G.cn ?_ ?_<;>intro hc<;>first|(with_reducible exact False.elim hc)|(exfalso;omega)|skip)))<;>(try clear fct)
    all_goals
      (first|refine G.r1 ?_|refine G.r2 ?_|refine G.r3 ?_|refine G.r0 ?_|refine G.d0 ?_);(try simp (disch:=first|exact dis|fail) only [push_cast,↓reduceIte,zq1,zq2,zq3,zq4,zq5,fct])
      (first|exact Sep.xt (by assumption)|exact ⟨rfl,Sep.xt (by assumption)⟩)
  | ok D =>
    rw [hX] at hd1
    obtain ⟨e1,ko,roa,rob,d1⟩:=rowsE_ok hX
    subst e1
    obtain ⟨hoo,hst⟩:=apply_dif roa rob (D:=D) (by rw [d1])
    obtain ⟨T0,hT0,hTp⟩:=applyM_may ko roa hoo hst
    have gD:∀ c∈D,SmR c.old∧SmR c.new:=fun c hc=>by rw [d1] at hc;exact dif_sm roa.d rob.d gra grb hc
    have lD:D.length≤24:=by have:=dif_lenT (placesM la keys) ra rb;rw [←d1] at this;omega
    (have fct:=@hr;repeat' (first|((with_reducible apply G.a);exact rfl)|refine G.reg fun K hK=>?_|(with_reducible (refine hK _ _ ?_);clear hK K)|(with_reducible (refine hK _ ?_);clear hK K;intro wd hxd;have hS:=Sep.xx hxd)|((first|have hk:=hK|have hk:=hK2);clear hk;simp (disch:=first|exact dis|fail) only [push_cast,↓reduceIte,zq1,zq2,zq3,zq4,zq5,fct])|((first|refine brO_n ?_ ?_|refine brQ_n ?_ ?_)<;>intro hb hc<;>first|(with_reducible exact False.elim hc)|(exfalso;omega)|(simp only [hb];clear hb))|((first|refine zalc ?_|refine zbsl ?_|((with_reducible refine gBox ?_);refine zbox ?_));intro gb wb hS)|((with_reducible refine gSt ?_);refine zs2 ?_;intro wb hS)|(refine zcp 4 (hft1 _ hS.x) ?_;intro wb hS)|(refine zcp 7 (alive_spec _) ?_;intro wb hS)|(refine zcp 6 (refD_spec d hd _) ?_;intro wb hS)|(refine zcp 5 (rightR_spec d hd _) ?_;intro wb hS)|(refine zco 8 (hd1 _ hS.x) ?_;rintro vb wb ⟨v1,vs1,rfl,hS2⟩;have hS:=hS2.ap;simp only [apps] at hS)|(refine G.drt mixed fun K hK wd hxd=>?_;have hS:=Sep.xx hxd)|with_reducible refine OT_leaf ?_|(with_reducible (refine hK2 _ ?_);clear hK2 K2;intro wd hxd;have hS:=Sep.xx hxd)|with_reducible refine OT_br fun K2 hK2=>?_|(refine hK2 _ _ ?_ ?_<;>clear hK2 K2)|refine G.drg mixed fun K hK=>?_|(refine G.cn ?_ ?_<;>intro hc<;>first|(with_reducible exact False.elim hc)|(exfalso;omega)|skip)))<;>(try clear fct)
    all_goals
      exact hTl _ _ _ la T0 D _ _ ha hb l1 l2 hkl l3 m3 gra grb hX gD lD hT0 hTp ko.1 hr hv ht (by (simp only [push_cast,↓reduceIte,zq1,zq2,zq3,zq4,zq5]<;>rfl)) (by (simp only [push_cast,↓reduceIte,zq1,zq2,zq3,zq4,zq5]<;>rfl)) (Sep.sub hS (by repeat first|exact Sub.rfl'|exact Sub.n|exact Sub.nil0|(refine Sub.c (by repeat constructor) ?_)|refine Sub.skip ?_))
end Go.Proofs.YtjajihaeoolefaaGreatDoor
