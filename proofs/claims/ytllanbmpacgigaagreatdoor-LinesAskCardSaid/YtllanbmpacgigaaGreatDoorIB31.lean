/- Texts of the proof, joined. -/
import Derived.Test.YtllanbmpacgigaaGreatDoorIV30
import Derived.Test.YtllanbmpacgigaaGreatDoorIH20
import Derived.Test.YtllanbmpacgigaaGreatDoorIR25
namespace Go.Proofs.YtllanbmpacgigaaGreatDoor
open Operand renaming tmp→Y,const→yc
open MC renaming seq→Z,reg→yr,skip→yk,cond→yd
open MO renaming call→yl,bin→yb
open Nat renaming reduceAdd→zq1,reduceLeDiff→zq2,reduceEqDiff→zq3,reduceLT→zq4
open Int renaming reduceToNat→zq5
set_option linter.unusedSimpArgs false
set_option linter.unusedVariables false
open Go.RowKit
def rowD (c:Chg):List Val:=if c.kind=3 then c.new else c.old
def wordD (c:Chg):Str:=if c.kind=2 then [99,104,97,110,103,101,100] else if c.kind=3 then [97,100,100,101,100] else [103,111,110,101]
def tellF (at':Nat) (k:Int) (nl:Bool):List Chg→List Str→Except Int (List Str)
 | [],acc=>.ok acc
 | c :: r,acc=>if (encM ((rowD c).getD at' default) k nl).2≠0 then .error (encM ((rowD c).getD at' default) k nl).2 else tellF at' k nl r (acc++[wordD c++[32]++sqM (encM ((rowD c).getD at' default) k nl).1])
def tellJ:Except Int (List Str)→Str×Int
 | .error e=>([],e)
 | .ok T=>(Lib.join T [59,32],0)
def tellK (l:List Col) (key:Str) (D:List Chg):Str×Int :=
 if D.length=0 then ([110,111,110,101],0) else tellJ (tellF (fndM l key).2.1.toNat (fndM l key).1.kind (fndM l key).1.null D [])
noncomputable def diff2K (l:List Col) (key:Str) (A B:List (List Val)×Int):Str×Int :=
 if A.2≠0 then ([],A.2) else if B.2≠0 then ([],B.2) else match diffE l l A.1 B.1 [key] with
 | .error e=>([],e)
 | .ok D=>tellK l key D
noncomputable def diffK (d:Dl) (l:List Col) (m:Str→Option Str) (rest:Str):Str×Int :=
 if (cutT 32 (cutT 32 rest).2.1).2.2=true∧nmM (cutT 32 rest).1=true∧nmM (cutT 32 (cutT 32 rest).2.1).1=true then
  match m (cutT 32 rest).1,m (cutT 32 (cutT 32 rest).2.1).1 with
  | some a,some b=>diff2K l (cutT 32 (cutT 32 rest).2.1).2.1 (rowsK d l a) (rowsK d l b)
  | _,_=>([],25)
 else ([],23)
def WideR (l:List Col) (N:Nat) (t:List (List Val)):Prop:=∀ v∈t,v.length=l.length∧∀ x∈v,i64M x.n∧x.s.length≤N
theorem rdF_n (r0:Nat) (p:List Int) (l:List Col) (fk fa:Int):∀ (t:List (List Str)) (out:List (List Val)),(rdF r0 p l fk fa t out).1.length≤out.length+t.length
 | [],out=>by
   rw [rdF]
   split<;>simp
 | r :: t,out=>by
   rw [rdF]
   split
   ·simp
   split
   ·simp
   split
   ·simp
   ·have:=rdF_n r0 p l fk fa t (out++[(rowM (pickM r p).1 l).1])
    simp only [List.length_append,List.length_cons,List.length_nil] at this ⊢
    omega
theorem readM_n (d:Dl) (l:List Col) (mode:Int) (s:Str):(readM d l mode s).1.length≤s.length+1:=by
 unfold readM
 split
 ·simp
 split
 ·simp
 split
 ·simp
 have hpm:((parM d wideL s).rs.map Prod.fst).length≤s.length+1:=by rw [List.length_map];exact parM_len d wideL s
 generalize (parM d wideL s).rs.map Prod.fst=t at *
 cases t with
 | nil=>rw [rdT];split<;>simp
 | cons r0 t =>
   rw [rdT]
   split
   ·simp
   ·have h1:=rdF_n r0.length (bindCM r0 (l.map nkC) mode).1 l (parM d wideL s).k (parM d wideL s).a t []
    simp only [List.length_cons,List.length_nil] at *
    omega
theorem rowsK_wide (d:Dl) (l:List Col) (s:Str):WideR l (s.length+1) (rowsK d l s).1∧(rowsK d l s).1.length≤s.length+1:=by
 unfold rowsK
 split
 ·exact ⟨fun v hv=>by simp at hv,by simp⟩
 ·refine ⟨fun v hv=>?_,readM_n d l 2 s⟩
  dsimp only at hv
  by_cases hk:(readM d l 2 s).2.k=0
  ·have:=(readM_good d l 2 s hk).2.2 v hv
   exact ⟨this.2.1,this.2.2⟩
  ·rw [readM_none d l 2 s hk] at hv;simp at hv
theorem dif_row {l:List Col} {key:Str} {A B:List (List Val)} {D:List Chg} {N:Nat} (hA:WideR l N A) (hB:WideR l N B) (h:diffE l l A B [key]=.ok D) :
 (∀ c∈D,(rowD c).length=l.length∧(∀ x∈rowD c,i64M x.n∧x.s.length≤N))∧0≤atM (namesC l) key∧D.length≤A.length+B.length:=by
 unfold diffE at h
 split at h
 ·simp at h
 split at h
 ·simp at h
 rename_i h1
 split at h
 ·simp at h
 injection h with h
 subst h
 rw [ne_eq,Classical.not_not,dchk_iff] at h1
 refine ⟨fun c hc=>?_,?_,?_⟩
 ·unfold difM at hc
  rcases List.mem_append.1 hc with hc|hc
  ·obtain ⟨r,hr,e⟩:=List.mem_filterMap.1 hc
   have hk:rowD c=r:=by
    unfold dif1 at e
    split at e
    ·injection e with e;subst e;rfl
    ·split at e
     ·simp at e
     ·injection e with e;subst e;rfl
   rw [hk];exact hA r hr
  ·obtain ⟨r,hr,e⟩:=List.mem_filterMap.1 hc
   have hk:rowD c=r:=by
    unfold dif2 at e
    split at e
    ·simp at e
    ·injection e with e;subst e;rfl
   rw [hk];exact hB r hr
 ·have h2:=h1.1.2.2
  rw [keysF] at h2
  split at h2
  ·simp at h2
  ·rename_i h3
   unfold namesC;omega
 ·unfold difM
  rw [List.length_append]
  have a1:=List.length_filterMap_le (dif1 (placesM l [key]) B) A
  have a2:=List.length_filterMap_le (dif2 (placesM l [key]) A) B
  omega
attribute [local irreducible] SemK UnitK StK AlcK BslK CallK CallV Instr.box Builtin.append_ Instr.makeSlice Instr.makeMap Instr.lookup Instr.mapUpdate Instr.sliceAt convert
def c50l1:MC:=(Z (yr [qq 132 (yb .lss (Y 131) (Y 130))]) (Z (yd (Y 132) yk (.exit 0)) (Z (.blk 1 (Z (yr [qq 133 (.adr 3 (Y 129) (Y 131)),qq 134 (.ld (.some 3) (Y 133)),qq 24 (.alc 126 [(.int .i64 0),(.slice none 0 0),(.slice none 0 0)]),qn (.st 3 (Y 24) (Y 134))]) (Z (.drg [qq 135 (.fad 1 (Y 24)),qq 136 (.ld none (Y 135)),qq 25 (.mv (yc (S [103,111,110,101]))),qm 26 136] none) (Z (Z (yr [qq 137 (.fad 0 (Y 24)),qq 138 (.ld none (Y 137))]) (.blk 2 (Z (yr [qq 140 (yb .eql (Y 138) (ki 2)),qm 139 140]) (yd (Y 139) (yr [qq 25 (.mv (yc (S [99,104,97,110,103,101,100])))]) (Z (yr [qq 142 (yb .eql (Y 138) (ki 3)),qm 141 142]) (yd (Y 141) (.drg [qq 143 (.fad 2 (Y 24)),qq 144 (.ld none (Y 143)),qq 25 (.mv (yc (S [97,100,100,101,100]))),qm 26 144] none) yk)))))) (Z (.drg [qm 146 26,qm 147 20,qq 148 (.adr 4 (Y 146) (Y 147)),qq 149 (.ld (.some 4) (Y 148)),qq 150 (.ld (.some 3) (Y 19)),qq 151 (yl 78 [(Y 149),(Y 150)]),qm 145 151,qq 152 (.ext 0 (Y 145)),qq 153 (.ext 1 (Y 145)),qm 27 152,qm 28 153] (.some (.br [qm 146 26,qm 147 20,qq 148 (.adr 4 (Y 146) (Y 147))] (.leaf [qq 149 (.ld (.some 4) (Y 148)),qq 150 (.ld (.some 3) (Y 19)),qq 151 (yl 78 [(Y 149),(Y 150)]),qm 145 151,qq 152 (.ext 0 (Y 145)),qq 153 (.ext 1 (Y 145)),qm 27 152,qm 28 153]) (.leaf [qq 150 (.ld (.some 3) (Y 19)),qq 149 (.ld (.some 4) (Y 148)),qq 151 (yl 78 [(Y 149),(Y 150)]),qm 145 151,qq 152 (.ext 0 (Y 145)),qq 153 (.ext 1 (Y 145)),qm 27 152,qm 28 153])))) (Z (Z (yr [qm 154 28,qq 155 (yb .neq (Y 154) (ki 0))]) (yd (Y 155) (Z (yr [qm 156 28,qq 4 (.mv (yc (S []))),qm 5 156]) .ret) yk)) (yr [qm 157 22,qm 158 25,qq 159 (yb .add (Y 158) (yc (S [32]))),qm 160 27,qq 161 (yl 15 [(Y 160)]),qq 162 (yb .add (Y 159) (Y 161)),qq 163 (.bsl 9 [(S [])] 1 [⟨0,⟨1,(Y 162)⟩⟩]),qq 164 (.raw (.call ⟨(.builtin .append),#[(Y 157),(Y 163)],#[22,22]⟩) 22),qm 22 164]))))))) (yr [qq 165 (yb .add (Y 131) (ki 1)),qm 131 165]))))
def c50:MC:=(Z (yr [qq 4 (.mv (yc (S []))),qq 5 (.mv (ki 0))]) (Z (yr [qm 30 1,qq 31 (yl 44 [(Y 30),(yc (S [32]))]),qm 29 31,qq 32 (.ext 0 (Y 29)),qq 33 (.ext 1 (Y 29)),qq 34 (.ext 2 (Y 29)),qm 6 32,qm 1 33,qm 7 34]) (Z (yr [qm 36 1,qq 37 (yl 44 [(Y 36),(yc (S [32]))]),qm 35 37,qq 38 (.ext 0 (Y 35)),qq 39 (.ext 1 (Y 35)),qq 40 (.ext 2 (Y 35)),qm 8 38,qm 9 39,qm 10 40]) (Z (Z (yr [qm 41 10,qq 42 (.un .not (Y 41)),qm 43 42,qmf 43 44 6,qf 43 45 (yl 65 [(Y 44)]),qf 43 46 (.un .not (Y 45)),qq 47 (.pick (Y 43) (kb true) (Y 46)),qm 48 47,qmf 48 49 8,qf 48 50 (yl 65 [(Y 49)]),qf 48 51 (.un .not (Y 50)),qq 52 (.pick (Y 48) (kb true) (Y 51))]) (yd (Y 52) (Z (yr [qq 4 (.mv (yc (S []))),qq 5 (.mv (ki 23))]) .ret) yk)) (Z (yr [qm 54 0,qq 55 (.nck (Y 54)),qq 56 (.fad 4 (Y 55)),qq 57 (.ld none (Y 56)),qm 58 6,qq 59 (.raw (.lookup 52 (Y 57) (Y 58) true) 34),qm 53 59,qq 60 (.ext 0 (Y 53)),qq 61 (.ext 1 (Y 53)),qm 11 60,qm 12 61]) (Z (yr [qm 63 0,qq 64 (.nck (Y 63)),qq 65 (.fad 4 (Y 64)),qq 66 (.ld none (Y 65)),qm 67 8,qq 68 (.raw (.lookup 52 (Y 66) (Y 67) true) 34),qm 62 68,qq 69 (.ext 0 (Y 62)),qq 70 (.ext 1 (Y 62)),qm 13 69,qm 14 70]) (Z (Z (yr [qm 71 12,qq 72 (.un .not (Y 71)),qm 73 72,qmf 73 74 14,qf 73 75 (.un .not (Y 74)),qq 76 (.pick (Y 73) (kb true) (Y 75))]) (yd (Y 76) (Z (yr [qq 4 (.mv (yc (S []))),qq 5 (.mv (ki 25))]) .ret) yk)) (Z (yr [qm 78 0,qm 79 11,qq 80 (yl 75 [(Y 78),(Y 79)]),qm 77 80,qq 81 (.ext 0 (Y 77)),qq 82 (.ext 1 (Y 77)),qm 15 81,qm 16 82]) (Z (Z (yr [qm 83 16,qq 84 (yb .neq (Y 83) (ki 0))]) (yd (Y 84) (Z (yr [qm 85 16,qq 4 (.mv (yc (S []))),qm 5 85]) .ret) yk)) (Z (yr [qm 87 0,qm 88 13,qq 89 (yl 75 [(Y 87),(Y 88)]),qm 86 89,qq 90 (.ext 0 (Y 86)),qq 91 (.ext 1 (Y 86)),qm 17 90,qm 16 91]) (Z (Z (yr [qm 92 16,qq 93 (yb .neq (Y 92) (ki 0))]) (yd (Y 93) (Z (yr [qm 94 16,qq 4 (.mv (yc (S []))),qm 5 94]) .ret) yk)) (Z (.drg [qm 96 0,qq 97 (.nck (Y 96)),qq 98 (.fad 3 (Y 97)),qq 99 (.ld none (Y 98)),qm 100 15,qq 101 (.bld [(.slice none 0 0),(.slice none 0 0)] [⟨0,⟨1,(Y 99)⟩⟩,⟨1,⟨1,(Y 100)⟩⟩]),qm 102 0,qq 103 (.nck (Y 102)),qq 104 (.fad 3 (Y 103)),qq 105 (.ld none (Y 104)),qm 106 17,qq 107 (.bld [(.slice none 0 0),(.slice none 0 0)] [⟨0,⟨1,(Y 105)⟩⟩,⟨1,⟨1,(Y 106)⟩⟩]),qm 108 9,qq 109 (.bsl 9 [(S [])] 1 [⟨0,⟨1,(Y 108)⟩⟩]),qq 110 (yl 76 [(Y 101),(Y 107),(Y 109)]),qm 95 110,qq 111 (.ext 0 (Y 95)),qq 112 (.ext 1 (Y 95)),qm 18 111,qm 16 112] (.some (.br [qm 96 0,qq 97 (.nck (Y 96)),qq 98 (.fad 3 (Y 97)),qm 100 15,qm 102 0,qq 103 (.nck (Y 102)),qq 104 (.fad 3 (Y 103)),qm 106 17,qm 108 9] (.br [qq 99 (.ld none (Y 98)),qq 101 (.bld [(.slice none 0 0),(.slice none 0 0)] [⟨0,⟨1,(Y 99)⟩⟩,⟨1,⟨1,(Y 100)⟩⟩])] (.leaf [qq 105 (.ld none (Y 104)),qq 107 (.bld [(.slice none 0 0),(.slice none 0 0)] [⟨0,⟨1,(Y 105)⟩⟩,⟨1,⟨1,(Y 106)⟩⟩]),qq 109 (.bsl 9 [(S [])] 1 [⟨0,⟨1,(Y 108)⟩⟩]),qq 110 (yl 76 [(Y 101),(Y 107),(Y 109)]),qm 95 110,qq 111 (.ext 0 (Y 95)),qq 112 (.ext 1 (Y 95)),qm 18 111,qm 16 112]) (.leaf [qq 109 (.bsl 9 [(S [])] 1 [⟨0,⟨1,(Y 108)⟩⟩]),qq 105 (.ld none (Y 104)),qq 107 (.bld [(.slice none 0 0),(.slice none 0 0)] [⟨0,⟨1,(Y 105)⟩⟩,⟨1,⟨1,(Y 106)⟩⟩]),qq 110 (yl 76 [(Y 101),(Y 107),(Y 109)]),qm 95 110,qq 111 (.ext 0 (Y 95)),qq 112 (.ext 1 (Y 95)),qm 18 111,qm 16 112])) (.br [] (.br [qq 105 (.ld none (Y 104)),qq 107 (.bld [(.slice none 0 0),(.slice none 0 0)] [⟨0,⟨1,(Y 105)⟩⟩,⟨1,⟨1,(Y 106)⟩⟩])] (.leaf [qq 99 (.ld none (Y 98)),qq 101 (.bld [(.slice none 0 0),(.slice none 0 0)] [⟨0,⟨1,(Y 99)⟩⟩,⟨1,⟨1,(Y 100)⟩⟩]),qq 109 (.bsl 9 [(S [])] 1 [⟨0,⟨1,(Y 108)⟩⟩]),qq 110 (yl 76 [(Y 101),(Y 107),(Y 109)]),qm 95 110,qq 111 (.ext 0 (Y 95)),qq 112 (.ext 1 (Y 95)),qm 18 111,qm 16 112]) (.leaf [qq 109 (.bsl 9 [(S [])] 1 [⟨0,⟨1,(Y 108)⟩⟩]),qq 99 (.ld none (Y 98)),qq 101 (.bld [(.slice none 0 0),(.slice none 0 0)] [⟨0,⟨1,(Y 99)⟩⟩,⟨1,⟨1,(Y 100)⟩⟩]),qq 110 (yl 76 [(Y 101),(Y 107),(Y 109)]),qm 95 110,qq 111 (.ext 0 (Y 95)),qq 112 (.ext 1 (Y 95)),qm 18 111,qm 16 112])) (.br [qq 109 (.bsl 9 [(S [])] 1 [⟨0,⟨1,(Y 108)⟩⟩])] (.leaf [qq 99 (.ld none (Y 98)),qq 101 (.bld [(.slice none 0 0),(.slice none 0 0)] [⟨0,⟨1,(Y 99)⟩⟩,⟨1,⟨1,(Y 100)⟩⟩]),qq 105 (.ld none (Y 104)),qq 107 (.bld [(.slice none 0 0),(.slice none 0 0)] [⟨0,⟨1,(Y 105)⟩⟩,⟨1,⟨1,(Y 106)⟩⟩]),qq 110 (yl 76 [(Y 101),(Y 107),(Y 109)]),qm 95 110,qq 111 (.ext 0 (Y 95)),qq 112 (.ext 1 (Y 95)),qm 18 111,qm 16 112]) (.leaf [qq 105 (.ld none (Y 104)),qq 107 (.bld [(.slice none 0 0),(.slice none 0 0)] [⟨0,⟨1,(Y 105)⟩⟩,⟨1,⟨1,(Y 106)⟩⟩]),qq 99 (.ld none (Y 98)),qq 101 (.bld [(.slice none 0 0),(.slice none 0 0)] [⟨0,⟨1,(Y 99)⟩⟩,⟨1,⟨1,(Y 100)⟩⟩]),qq 110 (yl 76 [(Y 101),(Y 107),(Y 109)]),qm 95 110,qq 111 (.ext 0 (Y 95)),qq 112 (.ext 1 (Y 95)),qm 18 111,qm 16 112])))))) (Z (Z (yr [qm 113 16,qq 114 (yb .neq (Y 113) (ki 0))]) (yd (Y 114) (Z (yr [qm 115 16,qq 4 (.mv (yc (S []))),qm 5 115]) .ret) yk)) (Z (Z (yr [qm 116 18,qq 117 (.len (Y 116)),qq 118 (yb .eql (Y 117) (ki 0))]) (yd (Y 118) (Z (yr [qq 4 (.mv (yc (S [110,111,110,101]))),qq 5 (.mv (ki 0))]) .ret) yk)) (Z (yr [qm 120 0,qq 121 (.nck (Y 120)),qq 122 (.fad 3 (Y 121)),qq 123 (.ld none (Y 122)),qm 124 9,qq 125 (yl 77 [(Y 123),(Y 124)]),qm 119 125,qq 126 (.ext 0 (Y 119)),qq 127 (.ext 1 (Y 119)),qq 128 (.ext 2 (Y 119)),qq 19 (.alc 121 [(S []),(.int .i64 0),(.bool false)]),qn (.st 3 (Y 19) (Y 126)),qm 20 127,qm 21 128]) (Z (yr [qq 22 (.mv (yc (.slice none 0 0)))]) (Z (Z (yr [qm 129 18,qq 130 (.len (Y 129)),qq 131 (.mv (ki 0))]) (.blk 0 (.loop c50l1))) (Z (yr [qm 166 22,qq 167 (yl 79 [(Y 166),(yc (S [59,32]))]),qm 4 167,qq 5 (.mv (ki 0))]) .ret))))))))))))))))))
def dfC (T:MC):MC:=match c50 with
 | .seq a (.seq b (.seq c (.seq d (.seq e (.seq f (.seq g (.seq h (.seq i (.seq j (.seq k (.seq l (.seq o _))))))))))))=>.seq a (.seq b (.seq c (.seq d (.seq e (.seq f (.seq g (.seq h (.seq i (.seq j (.seq k (.seq l (.seq o T))))))))))))
 | x=>x
def dfT:MC:=match c50 with
 | .seq _ (.seq _ (.seq _ (.seq _ (.seq _ (.seq _ (.seq _ (.seq _ (.seq _ (.seq _ (.seq _ (.seq _ (.seq _ t))))))))))))=>t
 | x=>x
theorem dfC_eq:c50=dfC dfT:=by rfl
section
variable {g r:Nat} {d:Dl} {l:List Col} {lv:Value} {m:Str→Option Str} {M:List Chk} {w w0:World}
set_option maxHeartbeats 2000000 in
theorem vdiff_tail {n':Nat} {ρ:Fr} {w':World} {key:Str} {D:List Chg} {v:Value} {vs0:List (Int×Value×Value)} (hD:∀ c∈D,(rowD c).length=l.length∧∀ x∈rowD c,i64M x.n∧x.s.length≤5000) (hat:0≤atM (namesC l) key) (hDl:D.length≤10000) (ht:Tab w0)
 (hjn:∀ T,tellF (fndM l key).2.1.toNat (fndM l key).1.kind (fndM l key).1.null D []=.ok T→(Lib.join T [59,32]).length≤1000000000)
 (q0:ρ 0=(.pointer (some ⟨g,0,none⟩))) (q9:ρ 9=S key) (q18:ρ 18=v) (hS0:Sep w0 w' (accC v 126 eCg vs0 :: frzG vs0 D :: boxC g 55 [U d.dl,U d.q,I d.e,lv,.map (some r)] :: mapC r S m :: accC lv 121 eC l :: M)) :
 G Tryz.prog Tryz.f50 n' [.c dfT] (fun res w'=>res=.tuple #[S (tellK l key D).1,I (tellK l key D).2]∧Sep w0 w' (boxC g 55 [U d.dl,U d.q,I d.e,lv,.map (some r)] :: mapC r S m :: accC lv 121 eC l :: M)) ρ w':=by
 unfold dfT c50
 dsimp only
 obtain ⟨vs,hrd,hvl,hrow⟩:=Sep.rdCs hS0 .h (.t .h)
 have hB:Blk w' g 55 ([U d.dl,U d.q,I d.e,lv,.map (some r)]:List Value).toArray:=Sep.blk hS0 (.t (.t .h))
 have hRl:Rd w' eC lv l:=Sep.rd hS0 (.t (.t (.t (.t .h))))
 have htb:Tab w':=ht.ext hS0.x
 have hfin:∀ {w2:World},Ext w' w2→Sep w0 w2 (boxC g 55 [U d.dl,U d.q,I d.e,lv,.map (some r)] :: mapC r S m :: accC lv 121 eC l :: M):=fun hx=>Sep.sub (hS0.ext hx) zw
 clear hS0 ht
 have hS:=Sep.start w'
 by_cases h0:D.length=0
 ·have e:tellK l key D=([110,111,110,101],0):=by unfold tellK;rw [if_pos h0]
  rw [e]
  have h00:(vs.length:Int)=0:=by omega
  (have fct:=(a4 @q0 @q9 @q18 @h00);repeat' (first|(refine gO ?_;intro K hK)|(refine kP ?_;clear hK K)|(refine hK _ _ ?_ ?_<;>clear hK K)|(intro wd hxd;have hS:=Sep.xx hxd)|refine sA ?_|(refine bM ?_ ?_<;>intro hb hc<;>first|exact zxf|(simp only [hb];clear hb))|((first|refine zalc ?_|refine zbsl ?_);intro gb wb hS)|((with_reducible refine gSt ?_);refine zs2 ?_;intro wb hS)|(refine G.cn ?_ ?_<;>intro hc<;>try exact zxf)))<;>(try clear fct)
  all_goals
   (have fct:=(a3 @q0 @q9 @q18);refine rM ?_)
   first|exact hfin (Sep.xt ‹_›)|exact ⟨rfl,hfin (Sep.xt ‹_›)⟩
 have hfd:fndM l key=(l.getD (atM (namesC l) key).toNat default,atM (namesC l) key,true):=by unfold fndM;rw [if_pos hat]
 have hal:=atM_lt (namesC l) key
 have hnl:(namesC l).length=l.length:=by unfold namesC;rw [List.length_map]
 have e:tellK l key D=tellJ (tellF (fndM l key).2.1.toNat (fndM l key).1.kind (fndM l key).1.null D []):=by unfold tellK;rw [if_neg h0]
 rw [e]
 clear e
 have hfs:=fun (w:World) (h:Rd w eC lv l)=>find_spec h key
 rw [hfd] at hfs hjn ⊢
 dsimp only at hfs hjn ⊢
 generalize l.getD (atM (namesC l) key).toNat default=cl at *
 generalize hap:atM (namesC l) key=ap at *
 unfold vC at hfs
 (have fct:=(a3 @q0 @q9 @q18);repeat' (first|(refine gO ?_;intro K hK)|(refine kP ?_;clear hK K)|(refine hK _ _ ?_ ?_<;>clear hK K)|(intro wd hxd;have hS:=Sep.xx hxd)|refine sA ?_|(refine bM ?_ ?_<;>intro hb hc<;>first|exact zxf|(simp only [hb];clear hb))|((first|refine zalc ?_|refine zbsl ?_);intro gb wb hS)|((with_reducible refine gSt ?_);refine zs2 ?_;intro wb hS)|(refine zcp 77 (hfs _ (Rd.old hRl hS)) ?_;intro wb hS)|(refine G.cn ?_ ?_<;>intro hc<;>try exact zxf)))<;>(try clear fct)
 all_goals
  have hS:=hS.nil 9 eS
  refine G.loop (fun x w2=>∃ (k:Nat) (acc:List Str) (tv:Value),k≤D.length∧tellF ap.toNat cl.kind cl.null D []=tellF ap.toNat cl.kind cl.null (D.drop k) acc∧acc.length=k∧x 19=.pointer (some ⟨gb,0,none⟩)∧x 20=I ap∧x 22=tv∧x 129=v∧x 130=I vs.length∧x 131=I k∧Sep w' w2 [accC tv 9 eS acc,boxC gb 121 [S cl.name,I cl.kind,.bool cl.null]]) (fun x _=>D.length - toN (x 131)) ?_ ?_
 ·have fct:=(a3 @q0 @q9 @q18);exact ⟨0,[],_,Nat.zero_le _,rfl,rfl,by exact sf,by exact sf,by exact sf,by exact sf,by exact sf,by exact sf,(Sep.sub hS zw)⟩
 ·clear hS q0 q9 q18
  rintro u wl ⟨k,acc,tv,hk,he,hac,q19,q20,q22,q129,q130,q131,hS⟩ ih
  have hm:toN (u 131)=k:=by rw [q131];simp [toN]
  by_cases hlt:(k:Int) < D.length
  ·have hlv : (k:Int) < vs.length:=by omega
   obtain ⟨z1,z2⟩:=hD _ (getD_mem D k hlt)
   obtain ⟨y1,y2,y3⟩:=hrow k zo
   rw [dropD D k hlt,tellF] at he
   generalize hvk:vs.getD k default=vk at *
   obtain ⟨a1,a2,a3⟩:=vk
   generalize D.getD k default=c at *
   obtain ⟨ck,co,cn⟩:=c
   dsimp only at y1 y2 y3
   subst y1
   by_cases k3:a1=3
   ·unfold rowD wordD at he
    unfold rowD at z1 z2
    subst k3
    simp only [if_true,show ¬ ((3:Int)=2) by decide,if_false] at he z1 z2
    obtain ⟨x,hx⟩:∃ x,(cn:List Val).getD ap.toNat default=x:=⟨_,rfl⟩
    have hxm:=z2 x (hx ▸ getD_mem cn ap.toNat zo)
    rw [hx] at he
    have hen:=fun w (h:Tab w)=>enc_spec x cl.name cl.kind cl.null w zo hxm.1 h
    have hel:=enc_len x cl.kind cl.null 6000 zo hxm.1 zd
    generalize encM x cl.kind cl.null=en at *
    obtain ⟨es,ee⟩:=en
    dsimp only at he hel hen
    have hsq:=sqM_len es
    by_cases h2:ee=0
    ·subst h2
     rw [if_neg ze] at he
     (have fct:=(a8 @q19 @q20 @q22 @q129 @q130 @q131 @hvk @hx);repeat' (first|(refine gO ?_;intro K hK)|(refine kP ?_;clear hK K)|(refine hK _ _ ?_ ?_<;>clear hK K)|(intro wd hxd;have hS:=Sep.xx hxd)|refine sA ?_|(refine bM ?_ ?_<;>intro hb hc<;>first|exact zxf|(simp only [hb];clear hb))|((first|refine zalc ?_|refine zbsl ?_);intro gb wb hS)|((with_reducible refine gSt ?_);refine zs2 ?_;intro wb hS)|(with_reducible refine aI (a:=OT _ _ _ _ _) (b:=OT _ _ _ _ _) ?_ ?_)|(refine zcp 78 (hen _ (htb.ext (Sep.xt ‹_›))) ?_;intro wb hS)|(refine zcp 15 (spellL_spec es _ zo) ?_;intro wb hS)|(refine zap ?_;intro vb wb hS)|(refine G.cn ?_ ?_<;>intro hc<;>try exact zxf)))<;>(try clear fct)
     all_goals
      have fct:=(a6 @q19 @q20 @q22 @q129 @q130 @q131);refine ih _ _ ⟨k+1,_,_,by omega,he,by simp only [List.length_append,List.length_cons,List.length_nil];omega,by exact sf,by exact sf,by exact sf,by exact sf,by exact sf,by exact sf,(Sep.sub hS zw)⟩ ?_
      rw [hm];simp only [push_cast,↓reduceIte,zq1,zq2,zq3,zq4,zq5,toN_i,q19,q20,q22,q129,q130,q131];omega
    ·rw [if_pos h2] at he
     rw [he]
     unfold tellJ
     dsimp only
     (have fct:=(a8 @q19 @q20 @q22 @q129 @q130 @q131 @hvk @hx);repeat' (first|(refine gO ?_;intro K hK)|(refine kP ?_;clear hK K)|(refine hK _ _ ?_ ?_<;>clear hK K)|(intro wd hxd;have hS:=Sep.xx hxd)|refine sA ?_|(refine bM ?_ ?_<;>intro hb hc<;>first|exact zxf|(simp only [hb];clear hb))|((first|refine zalc ?_|refine zbsl ?_);intro gb wb hS)|((with_reducible refine gSt ?_);refine zs2 ?_;intro wb hS)|(with_reducible refine aI (a:=OT _ _ _ _ _) (b:=OT _ _ _ _ _) ?_ ?_)|(refine zcp 78 (hen _ (htb.ext (Sep.xt ‹_›))) ?_;intro wb hS)|(refine G.cn ?_ ?_<;>intro hc<;>try exact zxf)))<;>(try clear fct)
     all_goals
      (have fct:=(a6 @q19 @q20 @q22 @q129 @q130 @q131);refine rM ?_)
      first|exact hfin (Sep.xt ‹_›)|exact ⟨rfl,hfin (Sep.xt ‹_›)⟩
   ·by_cases k2:a1=2
    ·unfold rowD wordD at he
     unfold rowD at z1 z2
     subst k2
     simp only [if_true,show ¬ ((2:Int)=3) by decide,if_false] at he z1 z2
     obtain ⟨x,hx⟩:∃ x,(co:List Val).getD ap.toNat default=x:=⟨_,rfl⟩
     have hxm:=z2 x (hx ▸ getD_mem co ap.toNat zo)
     rw [hx] at he
     have hen:=fun w (h:Tab w)=>enc_spec x cl.name cl.kind cl.null w zo hxm.1 h
     have hel:=enc_len x cl.kind cl.null 6000 zo hxm.1 zd
     generalize encM x cl.kind cl.null=en at *
     obtain ⟨es,ee⟩:=en
     dsimp only at he hel hen
     have hsq:=sqM_len es
     by_cases h2:ee=0
     ·subst h2
      rw [if_neg ze] at he
      (have fct:=(a8 @q19 @q20 @q22 @q129 @q130 @q131 @hvk @hx);repeat' (first|(refine gO ?_;intro K hK)|(refine kP ?_;clear hK K)|(refine hK _ _ ?_ ?_<;>clear hK K)|(intro wd hxd;have hS:=Sep.xx hxd)|refine sA ?_|(refine bM ?_ ?_<;>intro hb hc<;>first|exact zxf|(simp only [hb];clear hb))|((first|refine zalc ?_|refine zbsl ?_);intro gb wb hS)|((with_reducible refine gSt ?_);refine zs2 ?_;intro wb hS)|(with_reducible refine aI (a:=OT _ _ _ _ _) (b:=OT _ _ _ _ _) ?_ ?_)|(refine zcp 78 (hen _ (htb.ext (Sep.xt ‹_›))) ?_;intro wb hS)|(refine zcp 15 (spellL_spec es _ zo) ?_;intro wb hS)|(refine zap ?_;intro vb wb hS)|(refine G.cn ?_ ?_<;>intro hc<;>try exact zxf)))<;>(try clear fct)
      all_goals
       have fct:=(a6 @q19 @q20 @q22 @q129 @q130 @q131);refine ih _ _ ⟨k+1,_,_,by omega,he,by simp only [List.length_append,List.length_cons,List.length_nil];omega,by exact sf,by exact sf,by exact sf,by exact sf,by exact sf,by exact sf,(Sep.sub hS zw)⟩ ?_
       rw [hm];simp only [push_cast,↓reduceIte,zq1,zq2,zq3,zq4,zq5,toN_i,q19,q20,q22,q129,q130,q131];omega
     ·rw [if_pos h2] at he
      rw [he]
      unfold tellJ
      dsimp only
      (have fct:=(a8 @q19 @q20 @q22 @q129 @q130 @q131 @hvk @hx);repeat' (first|(refine gO ?_;intro K hK)|(refine kP ?_;clear hK K)|(refine hK _ _ ?_ ?_<;>clear hK K)|(intro wd hxd;have hS:=Sep.xx hxd)|refine sA ?_|(refine bM ?_ ?_<;>intro hb hc<;>first|exact zxf|(simp only [hb];clear hb))|((first|refine zalc ?_|refine zbsl ?_);intro gb wb hS)|((with_reducible refine gSt ?_);refine zs2 ?_;intro wb hS)|(with_reducible refine aI (a:=OT _ _ _ _ _) (b:=OT _ _ _ _ _) ?_ ?_)|(refine zcp 78 (hen _ (htb.ext (Sep.xt ‹_›))) ?_;intro wb hS)|(refine G.cn ?_ ?_<;>intro hc<;>try exact zxf)))<;>(try clear fct)
      all_goals
       (have fct:=(a6 @q19 @q20 @q22 @q129 @q130 @q131);refine rM ?_)
       first|exact hfin (Sep.xt ‹_›)|exact ⟨rfl,hfin (Sep.xt ‹_›)⟩
    ·unfold rowD wordD at he
     unfold rowD at z1 z2
     simp only [if_neg k3,if_neg k2] at he z1 z2
     obtain ⟨x,hx⟩:∃ x,(co:List Val).getD ap.toNat default=x:=⟨_,rfl⟩
     have hxm:=z2 x (hx ▸ getD_mem co ap.toNat zo)
     rw [hx] at he
     have hen:=fun w (h:Tab w)=>enc_spec x cl.name cl.kind cl.null w zo hxm.1 h
     have hel:=enc_len x cl.kind cl.null 6000 zo hxm.1 zd
     generalize encM x cl.kind cl.null=en at *
     obtain ⟨es,ee⟩:=en
     dsimp only at he hel hen
     have hsq:=sqM_len es
     by_cases h2:ee=0
     ·subst h2
      rw [if_neg ze] at he
      (have fct:=(a8 @q19 @q20 @q22 @q129 @q130 @q131 @hvk @hx);repeat' (first|(refine gO ?_;intro K hK)|(refine kP ?_;clear hK K)|(refine hK _ _ ?_ ?_<;>clear hK K)|(intro wd hxd;have hS:=Sep.xx hxd)|refine sA ?_|(refine bM ?_ ?_<;>intro hb hc<;>first|exact zxf|(simp only [hb];clear hb))|((first|refine zalc ?_|refine zbsl ?_);intro gb wb hS)|((with_reducible refine gSt ?_);refine zs2 ?_;intro wb hS)|(with_reducible refine aI (a:=OT _ _ _ _ _) (b:=OT _ _ _ _ _) ?_ ?_)|(refine zcp 78 (hen _ (htb.ext (Sep.xt ‹_›))) ?_;intro wb hS)|(refine zcp 15 (spellL_spec es _ zo) ?_;intro wb hS)|(refine zap ?_;intro vb wb hS)|(refine G.cn ?_ ?_<;>intro hc<;>try exact zxf)))<;>(try clear fct)
      all_goals
       have fct:=(a6 @q19 @q20 @q22 @q129 @q130 @q131);refine ih _ _ ⟨k+1,_,_,by omega,he,by simp only [List.length_append,List.length_cons,List.length_nil];omega,by exact sf,by exact sf,by exact sf,by exact sf,by exact sf,by exact sf,(Sep.sub hS zw)⟩ ?_
       rw [hm];simp only [push_cast,↓reduceIte,zq1,zq2,zq3,zq4,zq5,toN_i,q19,q20,q22,q129,q130,q131];omega
     ·rw [if_pos h2] at he
      rw [he]
      unfold tellJ
      dsimp only
      (have fct:=(a8 @q19 @q20 @q22 @q129 @q130 @q131 @hvk @hx);repeat' (first|(refine gO ?_;intro K hK)|(refine kP ?_;clear hK K)|(refine hK _ _ ?_ ?_<;>clear hK K)|(intro wd hxd;have hS:=Sep.xx hxd)|refine sA ?_|(refine bM ?_ ?_<;>intro hb hc<;>first|exact zxf|(simp only [hb];clear hb))|((first|refine zalc ?_|refine zbsl ?_);intro gb wb hS)|((with_reducible refine gSt ?_);refine zs2 ?_;intro wb hS)|(with_reducible refine aI (a:=OT _ _ _ _ _) (b:=OT _ _ _ _ _) ?_ ?_)|(refine zcp 78 (hen _ (htb.ext (Sep.xt ‹_›))) ?_;intro wb hS)|(refine G.cn ?_ ?_<;>intro hc<;>try exact zxf)))<;>(try clear fct)
      all_goals
       (have fct:=(a6 @q19 @q20 @q22 @q129 @q130 @q131);refine rM ?_)
       first|exact hfin (Sep.xt ‹_›)|exact ⟨rfl,hfin (Sep.xt ‹_›)⟩
  ·have hdr:D.drop k=[]:=List.drop_eq_nil_of_le zo
   rw [hdr,tellF] at he
   have hj:=hjn acc he
   rw [he]
   unfold tellJ
   dsimp only
   (have fct:=(a6 @q19 @q20 @q22 @q129 @q130 @q131);repeat' (first|(refine gO ?_;intro K hK)|(refine kP ?_;clear hK K)|(refine hK _ _ ?_ ?_<;>clear hK K)|(intro wd hxd;have hS:=Sep.xx hxd)|refine sA ?_|(refine bM ?_ ?_<;>intro hb hc<;>first|exact zxf|(simp only [hb];clear hb))|((first|refine zalc ?_|refine zbsl ?_);intro gb wb hS)|((with_reducible refine gSt ?_);refine zs2 ?_;intro wb hS)|(refine zcp 79 (joins_spec [59,32] (Sep.rd hS zr) zo zo) ?_;intro wb hS)|(refine G.cn ?_ ?_<;>intro hc<;>try exact zxf)))<;>(try clear fct)
   all_goals
    (have fct:=(a6 @q19 @q20 @q22 @q129 @q130 @q131);refine rM ?_)
    first|exact hfin (Sep.xt ‹_›)|exact ⟨rfl,hfin (Sep.xt ‹_›)⟩
end
theorem tell_bd (at':Nat) (k:Int) (nl:Bool) (N:Nat):∀ (D:List Chg) (acc T:List Str),(∀ c∈D,(encM ((rowD c).getD at' default) k nl).1.length≤N)→(∀ x∈acc,x.length≤8+2 * N)→tellF at' k nl D acc=.ok T→(∀ x∈T,x.length≤8+2 * N)∧T.length=acc.length+D.length
 | [],acc,T,_,ha,h=>by rw [tellF] at h;injection h with h;subst h;exact ⟨ha,by simp⟩
 | c :: D,acc,T,hD,ha,h=>by
   rw [tellF] at h
   split at h
   ·simp at h
   ·have h1:=hD c ze
    have h2:=sqM_len (encM ((rowD c).getD at' default) k nl).1
    have h3:(wordD c).length≤7:=by unfold wordD;split<;>(try split)<;>simp
    have := tell_bd at' k nl N D _ T (fun x hx=>hD x (by simp [hx])) (fun x hx=>by
     rcases List.mem_append.1 hx with hx|hx
     ·exact ha x hx
     ·rw [List.mem_singleton] at hx;subst hx
      simp only [List.length_append,List.length_cons,List.length_nil];omega) h
    simp only [List.length_append,List.length_cons,List.length_nil] at this ⊢
    exact ⟨this.1,by omega⟩
theorem joinU_len (sep:Str) (N:Nat):∀ T:List Str,(∀ x∈T,x.length≤N)→(Lib.joinTail sep T).length≤T.length * (N+sep.length)
 | [],_=>by simp [Lib.joinTail]
 | x :: T,h=>by
   have ih:=joinU_len sep N T fun y hy=>h y (by simp [hy])
   have h1:=h x ze
   have e:Lib.joinTail sep (x :: T)=sep++x++Lib.joinTail sep T:=by simp [Lib.joinTail]
   rw [e,List.length_append,List.length_append,List.length_cons,Nat.add_mul]
   omega
theorem joinT_len (sep:Str) (N:Nat) (T:List Str) (h:∀ x∈T,x.length≤N):(Lib.join T sep).length≤T.length * (N+sep.length):=by
 cases T with
 | nil=>simp [Lib.join_nil]
 | cons x T =>
   rw [Lib.join_cons,List.length_append]
   have h1:=joinU_len sep N T fun y hy=>h y (by simp [hy])
   have h2:=h x ze
   rw [List.length_cons,Nat.add_mul]
   omega
theorem lit1 {w:World} {g:Nat} {t:TypeId} {a:Str} (h:Blk w g t [S a].toArray):Rd w eS (.slice (some ⟨g,0,none⟩) 1 1) [a]:=lit_rdS [a] h rfl ze
section
variable {g r:Nat} {d:Dl} {l:List Col} {lv:Value} {m:Str→Option Str} {M:List Chk} {w w0:World}
set_option maxHeartbeats 4000000 in
theorem vdiff_spec (rest:Str) (hl:rest.length≤1000) (hmb:∀ k t,m k=some t→t.length≤4000) (hl1:l.length≤10000) (hl2:∀ c∈l,c.name.length≤10000) (hv:ErrV w0) (ht:Tab w0) (hS:Sep w0 w (boxC g 55 [U d.dl,U d.q,I d.e,lv,.map (some r)] :: mapC r S m :: accC lv 121 eC l :: M)) :
 Ret Tryz.prog 50 #[(.pointer (some ⟨g,0,none⟩)),S rest] w fun res w'=>res=.tuple #[S (diffK d l m rest).1,I (diffK d l m rest).2]∧Sep w0 w' (boxC g 55 [U d.dl,U d.q,I d.e,lv,.map (some r)] :: mapC r S m :: accC lv 121 eC l :: M):=by
 have hcl:=cutT_len 32 rest
 have hcu:=fun w=>cut_spec rest 32 w zo
 unfold diffK
 generalize hc:cutT 32 rest=c at *
 obtain ⟨nm,re2,p1⟩:=c
 dsimp only at hcl hcu ⊢
 have hcl2:=cutT_len 32 re2
 have hcu2:=fun w=>cut_spec re2 32 w zo
 generalize hc2:cutT 32 re2=c at *
 obtain ⟨nm2,key,pt⟩:=c
 dsimp only at hcl2 hcu2 ⊢
 clear hc hc2
 have olv:One lv:=Sep.accOne hS (.t (.t .h))
 refine En 168 c50 Tryz.func50 ?_
 rw [dfC_eq]
 by_cases h1:pt=true∧nmM nm=true∧nmM nm2=true
 rotate_left
 ·rw [if_neg h1]
  generalize dfT=T at *
  unfold dfC c50
  dsimp only
  cases pt with
  | false =>
    repeat' (first|(refine gO ?_;intro K hK)|(refine kP ?_;clear hK K)|(refine hK _ _ ?_ ?_<;>clear hK K)|(intro wd hxd;have hS:=Sep.xx hxd)|refine sA ?_|(refine bM ?_ ?_<;>intro hb hc<;>first|exact zxf|(simp only [hb];clear hb))|((first|refine zalc ?_|refine zbsl ?_);intro gb wb hS)|((with_reducible refine gSt ?_);refine zs2 ?_;intro wb hS)|((with_reducible (show CallK _ 44 [S rest,S [32]] _ _ _ _));refine zcp 44 (hcu _) ?_;intro wb hS)|((with_reducible (show CallK _ 44 [S re2,S [32]] _ _ _ _));refine zcp 44 (hcu2 _) ?_;intro wb hS)|(refine zcp 65 (lnamed_spec _ _ zo) ?_;intro wb hS)|(refine G.cn ?_ ?_<;>intro hc<;>try exact zxf))
    all_goals
     refine rM ?_
     (first|exact (Sep.sub hS zw)|exact ⟨rfl,(Sep.sub hS zw)⟩)
  | true =>
    cases h2:nmM nm with
    | false =>
      (have fct:=@h2;repeat' (first|(refine gO ?_;intro K hK)|(refine kP ?_;clear hK K)|(refine hK _ _ ?_ ?_<;>clear hK K)|(intro wd hxd;have hS:=Sep.xx hxd)|refine sA ?_|(refine bM ?_ ?_<;>intro hb hc<;>first|exact zxf|(simp only [hb];clear hb))|((first|refine zalc ?_|refine zbsl ?_);intro gb wb hS)|((with_reducible refine gSt ?_);refine zs2 ?_;intro wb hS)|((with_reducible (show CallK _ 44 [S rest,S [32]] _ _ _ _));refine zcp 44 (hcu _) ?_;intro wb hS)|((with_reducible (show CallK _ 44 [S re2,S [32]] _ _ _ _));refine zcp 44 (hcu2 _) ?_;intro wb hS)|(refine zcp 65 (lnamed_spec _ _ zo) ?_;intro wb hS)|(refine G.cn ?_ ?_<;>intro hc<;>try exact zxf)))<;>(try clear fct)
      all_goals
       refine rM ?_
       (first|exact (Sep.sub hS zw)|exact ⟨rfl,(Sep.sub hS zw)⟩)
    | true =>
      have h3:nmM nm2=false:=by cases h:nmM nm2;rfl;exact absurd ⟨rfl,h2,h⟩ h1
      (have fct:=(aI @h2 @h3);repeat' (first|(refine gO ?_;intro K hK)|(refine kP ?_;clear hK K)|(refine hK _ _ ?_ ?_<;>clear hK K)|(intro wd hxd;have hS:=Sep.xx hxd)|refine sA ?_|(refine bM ?_ ?_<;>intro hb hc<;>first|exact zxf|(simp only [hb];clear hb))|((first|refine zalc ?_|refine zbsl ?_);intro gb wb hS)|((with_reducible refine gSt ?_);refine zs2 ?_;intro wb hS)|((with_reducible (show CallK _ 44 [S rest,S [32]] _ _ _ _));refine zcp 44 (hcu _) ?_;intro wb hS)|((with_reducible (show CallK _ 44 [S re2,S [32]] _ _ _ _));refine zcp 44 (hcu2 _) ?_;intro wb hS)|(refine zcp 65 (lnamed_spec _ _ zo) ?_;intro wb hS)|(refine G.cn ?_ ?_<;>intro hc<;>try exact zxf)))<;>(try clear fct)
      all_goals
       refine rM ?_
       (first|exact (Sep.sub hS zw)|exact ⟨rfl,(Sep.sub hS zw)⟩)
 rw [if_pos h1]
 obtain ⟨rfl,hn1,hn2⟩:=h1
 cases hm1:m nm with
 | none =>
   generalize dfT=T at *
   unfold dfC c50
   dsimp only
   (have fct:=(a3 @hn1 @hn2 @hm1);repeat' (first|(refine gO ?_;intro K hK)|(refine kP ?_;clear hK K)|(refine hK _ _ ?_ ?_<;>clear hK K)|(intro wd hxd;have hS:=Sep.xx hxd)|refine sA ?_|(refine bM ?_ ?_<;>intro hb hc<;>first|exact zxf|(simp only [hb];clear hb))|((first|refine zalc ?_|refine zbsl ?_);intro gb wb hS)|((with_reducible refine gSt ?_);refine zs2 ?_;intro wb hS)|((with_reducible (show CallK _ 44 [S rest,S [32]] _ _ _ _));refine zcp 44 (hcu _) ?_;intro wb hS)|((with_reducible (show CallK _ 44 [S re2,S [32]] _ _ _ _));refine zcp 44 (hcu2 _) ?_;intro wb hS)|(refine zcp 65 (lnamed_spec _ _ zo) ?_;intro wb hS)|(refine zlk ?_)|(refine G.cn ?_ ?_<;>intro hc<;>try exact zxf)))<;>(try clear fct)
   all_goals
    refine rM ?_
    (first|exact (Sep.sub hS zw)|exact ⟨rfl,(Sep.sub hS zw)⟩)
 | some a => cases hm2:m nm2 with
   | none =>
     generalize dfT=T at *
     unfold dfC c50
     dsimp only
     (have fct:=(a4 @hn1 @hn2 @hm1 @hm2);repeat' (first|(refine gO ?_;intro K hK)|(refine kP ?_;clear hK K)|(refine hK _ _ ?_ ?_<;>clear hK K)|(intro wd hxd;have hS:=Sep.xx hxd)|refine sA ?_|(refine bM ?_ ?_<;>intro hb hc<;>first|exact zxf|(simp only [hb];clear hb))|((first|refine zalc ?_|refine zbsl ?_);intro gb wb hS)|((with_reducible refine gSt ?_);refine zs2 ?_;intro wb hS)|((with_reducible (show CallK _ 44 [S rest,S [32]] _ _ _ _));refine zcp 44 (hcu _) ?_;intro wb hS)|((with_reducible (show CallK _ 44 [S re2,S [32]] _ _ _ _));refine zcp 44 (hcu2 _) ?_;intro wb hS)|(refine zcp 65 (lnamed_spec _ _ zo) ?_;intro wb hS)|(refine zlk ?_)|(refine G.cn ?_ ?_<;>intro hc<;>try exact zxf)))<;>(try clear fct)
     all_goals
      refine rM ?_
      (first|exact (Sep.sub hS zw)|exact ⟨rfl,(Sep.sub hS zw)⟩)
   | some b =>
     dsimp only
     have hal:=hmb _ _ hm1
     have hbl:=hmb _ _ hm2
     have hra:=fun (w':World) (M':List Chk) (h:Sep w0 w' (boxC g 55 [U d.dl,U d.q,I d.e,lv,.map (some r)] :: mapC r S m :: accC lv 121 eC l :: M'))=>vrows_spec a zo zo (fun c hc=>by have:=hl2 c hc;omega) hv h
     have hrb:=fun (w':World) (M':List Chk) (h:Sep w0 w' (boxC g 55 [U d.dl,U d.q,I d.e,lv,.map (some r)] :: mapC r S m :: accC lv 121 eC l :: M'))=>vrows_spec b zo zo (fun c hc=>by have:=hl2 c hc;omega) hv h
     obtain ⟨wa,na⟩:=rowsK_wide d l a
     obtain ⟨wb',nb⟩:=rowsK_wide d l b
     unfold diff2K
     generalize rowsK d l a=A at *
     generalize rowsK d l b=B at *
     obtain ⟨ra,ea⟩:=A
     obtain ⟨rb,eb⟩:=B
     dsimp only at hra hrb wa na wb' nb ⊢
     by_cases h2:ea=0
     rotate_left
     ·rw [if_pos h2]
      generalize dfT=T at *
      unfold dfC c50
      dsimp only
      (have fct:=(a4 @hn1 @hn2 @hm1 @hm2);repeat' (first|(refine gO ?_;intro K hK)|(refine kP ?_;clear hK K)|(refine hK _ _ ?_ ?_<;>clear hK K)|(intro wd hxd;have hS:=Sep.xx hxd)|refine sA ?_|(refine bM ?_ ?_<;>intro hb hc<;>first|exact zxf|(simp only [hb];clear hb))|((first|refine zalc ?_|refine zbsl ?_);intro gb wb hS)|((with_reducible refine gSt ?_);refine zs2 ?_;intro wb hS)|((with_reducible (show CallK _ 44 [S rest,S [32]] _ _ _ _));refine zcp 44 (hcu _) ?_;intro wb hS)|((with_reducible (show CallK _ 44 [S re2,S [32]] _ _ _ _));refine zcp 44 (hcu2 _) ?_;intro wb hS)|(refine zcp 65 (lnamed_spec _ _ zo) ?_;intro wb hS)|(refine zlk ?_)|((with_reducible (show CallK _ 75 [_,S a] _ _ _ _));refine zco 75 (hra _ (M) (Sep.sub hS zw)) ?_;rintro vb wb ⟨v1,vs1,rfl,hS⟩;have ovv1:One v1:=Sep.accOne hS .h)|((with_reducible (show CallK _ 75 [_,S b] _ _ _ _));refine zco 75 (hrb _ (accC v1 124 eV vs1 :: frzC eVal vs1 ra :: M) (Sep.sub hS zw)) ?_;rintro vb wb ⟨v2,vs2,rfl,hS⟩;have ovv2:One v2:=Sep.accOne hS .h)|(with_reducible refine aI (a:=OT _ _ _ _ _) (b:=OT _ _ _ _ _) ?_ ?_)|(refine G.cn ?_ ?_<;>intro hc<;>try exact zxf)))<;>(try clear fct)
      all_goals
       refine rM ?_
       (first|exact (Sep.sub hS zw)|exact ⟨rfl,(Sep.sub hS zw)⟩)
     subst h2
     rw [if_neg ze]
     by_cases h3:eb=0
     rotate_left
     ·rw [if_pos h3]
      generalize dfT=T at *
      unfold dfC c50
      dsimp only
      (have fct:=(a4 @hn1 @hn2 @hm1 @hm2);repeat' (first|(refine gO ?_;intro K hK)|(refine kP ?_;clear hK K)|(refine hK _ _ ?_ ?_<;>clear hK K)|(intro wd hxd;have hS:=Sep.xx hxd)|refine sA ?_|(refine bM ?_ ?_<;>intro hb hc<;>first|exact zxf|(simp only [hb];clear hb))|((first|refine zalc ?_|refine zbsl ?_);intro gb wb hS)|((with_reducible refine gSt ?_);refine zs2 ?_;intro wb hS)|((with_reducible (show CallK _ 44 [S rest,S [32]] _ _ _ _));refine zcp 44 (hcu _) ?_;intro wb hS)|((with_reducible (show CallK _ 44 [S re2,S [32]] _ _ _ _));refine zcp 44 (hcu2 _) ?_;intro wb hS)|(refine zcp 65 (lnamed_spec _ _ zo) ?_;intro wb hS)|(refine zlk ?_)|((with_reducible (show CallK _ 75 [_,S a] _ _ _ _));refine zco 75 (hra _ (M) (Sep.sub hS zw)) ?_;rintro vb wb ⟨v1,vs1,rfl,hS⟩;have ovv1:One v1:=Sep.accOne hS .h)|((with_reducible (show CallK _ 75 [_,S b] _ _ _ _));refine zco 75 (hrb _ (accC v1 124 eV vs1 :: frzC eVal vs1 ra :: M) (Sep.sub hS zw)) ?_;rintro vb wb ⟨v2,vs2,rfl,hS⟩;have ovv2:One v2:=Sep.accOne hS .h)|(with_reducible refine aI (a:=OT _ _ _ _ _) (b:=OT _ _ _ _ _) ?_ ?_)|(refine G.cn ?_ ?_<;>intro hc<;>try exact zxf)))<;>(try clear fct)
      all_goals
       refine rM ?_
       (first|exact (Sep.sub hS zw)|exact ⟨rfl,(Sep.sub hS zw)⟩)
     subst h3
     rw [if_neg ze]
     have fa:∀ i,i < ra.length→FineV (ra.getD i []):=fun i hi x hx=>by
      have:=(wa _ (getD_mem ra i zo)).2 x hx
      exact ⟨by omega,this.1.1,this.1.2⟩
     have fb:∀ i,i < rb.length→FineV (rb.getD i []):=fun i hi x hx=>by
      have:=(wb' _ (getD_mem rb i zo)).2 x hx
      exact ⟨by omega,this.1.1,this.1.2⟩
     have hdf:=fun {va ua vb ub vk:Value} (w:World) (hx:Ext w0 w) h1 h2 h3 h4 h5=>diff_spec (va:=va) (ua:=ua) (vb:=vb) (ub:=ub) (vk:=vk) (la:=l) (lb:=l) (ra:=ra) (rb:=rb) (keys:=[key]) (w:=w) h1 h2 h3 h4 h5 (fun c hc=>by have:=hl2 c hc;omega) (fun c hc=>by have:=hl2 c hc;omega) ze fa fb zo zo zo (ht.ext hx)
     cases hD:diffE l l ra rb [key] with
     | error e =>
       rw [hD] at hdf
       generalize dfT=T at *
       unfold dfC c50
       dsimp only
       (have fct:=(a4 @hn1 @hn2 @hm1 @hm2);repeat' (first|(refine gO ?_;intro K hK)|(refine kP ?_;clear hK K)|(refine hK _ _ ?_ ?_<;>clear hK K)|(intro wd hxd;have hS:=Sep.xx hxd)|refine sA ?_|(refine bM ?_ ?_<;>intro hb hc<;>first|exact zxf|(simp only [hb];clear hb))|((first|refine zalc ?_|refine zbsl ?_);intro gb wb hS)|((with_reducible refine gSt ?_);refine zs2 ?_;intro wb hS)|((with_reducible (show CallK _ 44 [S rest,S [32]] _ _ _ _));refine zcp 44 (hcu _) ?_;intro wb hS)|((with_reducible (show CallK _ 44 [S re2,S [32]] _ _ _ _));refine zcp 44 (hcu2 _) ?_;intro wb hS)|(refine zcp 65 (lnamed_spec _ _ zo) ?_;intro wb hS)|(refine zlk ?_)|((with_reducible (show CallK _ 75 [_,S a] _ _ _ _));refine zco 75 (hra _ (M) (Sep.sub hS zw)) ?_;rintro vb wb ⟨v1,vs1,rfl,hS⟩;have ovv1:One v1:=Sep.accOne hS .h)|((with_reducible (show CallK _ 75 [_,S b] _ _ _ _));refine zco 75 (hrb _ (accC v1 124 eV vs1 :: frzC eVal vs1 ra :: M) (Sep.sub hS zw)) ?_;rintro vb wb ⟨v2,vs2,rfl,hS⟩;have ovv2:One v2:=Sep.accOne hS .h)|(with_reducible refine aI (a:=OT _ _ _ _ _) (b:=OT _ _ _ _ _) ?_ ?_)|((with_reducible (show CallK _ 76 _ _ _ _ _));refine zco 76 (hdf _ (Sep.xt ‹_›) (Sep.rd hS zr) (Sep.rdT (v:=v1) hS zr zr) (Sep.rd hS zr) (Sep.rdT (v:=v2) hS zr zr) (lit1 (Sep.blk hS zr))) ?_;rintro vb wb ⟨hne,rfl,hx⟩;have hS:=Sep.xx hx)|(refine G.cn ?_ ?_<;>intro hc<;>try exact zxf)))<;>(try clear fct)
       all_goals
        refine rM ?_
        (first|exact (Sep.sub hS zw)|exact ⟨rfl,(Sep.sub hS zw)⟩)
     | ok D =>
       obtain ⟨k1,k2,k3⟩:=dif_row (N:=5000) (fun v hv=>⟨(wa v hv).1,fun x hx=>⟨((wa v hv).2 x hx).1,by have:=((wa v hv).2 x hx).2;omega⟩⟩) (fun v hv=>⟨(wb' v hv).1,fun x hx=>⟨((wb' v hv).2 x hx).1,by have:=((wb' v hv).2 x hx).2;omega⟩⟩) hD
       rw [hD] at hdf
       dsimp only
       have hjn:∀ T,tellF (fndM l key).2.1.toNat (fndM l key).1.kind (fndM l key).1.null D []=.ok T→(Lib.join T [59,32]).length≤1000000000:=by
        intro T hT
        obtain ⟨b1,b2⟩:=tell_bd _ _ _ 6000 D [] T (fun c hc=>by
         have hfd:(fndM l key).2.1=atM (namesC l) key:=by unfold fndM;rw [if_pos k2]
         have hal:=atM_lt (namesC l) key
         have hnl:(namesC l).length=l.length:=by unfold namesC;rw [List.length_map]
         obtain ⟨c1,c2⟩:=k1 c hc
         have:=c2 _ (getD_mem (rowD c) (fndM l key).2.1.toNat zo)
         exact enc_len _ _ _ 6000 zo this.1 zd) ze hT
        have h4:=joinT_len [59,32] _ T b1
        simp only [List.length_cons,List.length_nil] at h4 b2
        have h5:T.length * (8+2 * 6000+(0+1+1))≤10000 * (8+2 * 6000+(0+1+1)):=Nat.mul_le_mul_right _ zo
        omega
       have htl:=fun {n':Nat} {ρ:Fr} {w':World} {v:Value} {vs0:List (Int×Value×Value)} {M':List Chk}=>@vdiff_tail g r d l lv m M' w0 n' ρ w' key D v vs0 k1 k2 zo ht hjn
       clear hjn k1 k2 k3 fa fb wa wb'
       generalize dfT=T at *
       unfold dfC c50
       dsimp only
       (have fct:=(a4 @hn1 @hn2 @hm1 @hm2);repeat' (first|(refine gO ?_;intro K hK)|(refine kP ?_;clear hK K)|(refine hK _ _ ?_ ?_<;>clear hK K)|(intro wd hxd;have hS:=Sep.xx hxd)|refine sA ?_|(refine bM ?_ ?_<;>intro hb hc<;>first|exact zxf|(simp only [hb];clear hb))|((first|refine zalc ?_|refine zbsl ?_);intro gb wb hS)|((with_reducible refine gSt ?_);refine zs2 ?_;intro wb hS)|((with_reducible (show CallK _ 44 [S rest,S [32]] _ _ _ _));refine zcp 44 (hcu _) ?_;intro wb hS)|((with_reducible (show CallK _ 44 [S re2,S [32]] _ _ _ _));refine zcp 44 (hcu2 _) ?_;intro wb hS)|(refine zcp 65 (lnamed_spec _ _ zo) ?_;intro wb hS)|(refine zlk ?_)|((with_reducible (show CallK _ 75 [_,S a] _ _ _ _));refine zco 75 (hra _ (M) (Sep.sub hS zw)) ?_;rintro vb wb ⟨v1,vs1,rfl,hS⟩;have ovv1:One v1:=Sep.accOne hS .h)|((with_reducible (show CallK _ 75 [_,S b] _ _ _ _));refine zco 75 (hrb _ (accC v1 124 eV vs1 :: frzC eVal vs1 ra :: M) (Sep.sub hS zw)) ?_;rintro vb wb ⟨v2,vs2,rfl,hS⟩;have ovv2:One v2:=Sep.accOne hS .h)|(with_reducible refine aI (a:=OT _ _ _ _ _) (b:=OT _ _ _ _ _) ?_ ?_)|((with_reducible (show CallK _ 76 _ _ _ _ _));refine zco 76 (hdf _ (Sep.xt ‹_›) (Sep.rd hS zr) (Sep.rdT (v:=v1) hS zr zr) (Sep.rd hS zr) (Sep.rdT (v:=v2) hS zr zr) (lit1 (Sep.blk hS zr))) ?_;rintro vb wb ⟨v3,vs3,rfl,hS2⟩;have hS:=hS2.ap;simp only [apps] at hS)|(refine G.cn ?_ ?_<;>intro hc<;>try exact zxf)))<;>(try clear fct)
       all_goals exact htl (by simp only [push_cast,↓reduceIte,zq1,zq2,zq3,zq4,zq5]<;>rfl) (by simp only [push_cast,↓reduceIte,zq1,zq2,zq3,zq4,zq5]<;>rfl) (by simp only [push_cast,↓reduceIte,zq1,zq2,zq3,zq4,zq5]<;>rfl) (Sep.sub hS zw)
end
end Go.Proofs.YtllanbmpacgigaaGreatDoor
