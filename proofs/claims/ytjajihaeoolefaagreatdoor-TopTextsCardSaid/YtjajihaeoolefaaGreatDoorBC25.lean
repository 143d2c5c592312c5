/- Texts of the proof, joined. -/
import Derived.Test.YtjajihaeoolefaaGreatDoorBZ25
import Derived.Test.YtjajihaeoolefaaGreatDoorBW20
namespace Go.Proofs.YtjajihaeoolefaaGreatDoor
open Nat renaming reduceAdd→zq1,reduceLeDiff→zq2,reduceEqDiff→zq3,reduceLT→zq4
open Int renaming reduceToNat→zq5
set_option linter.unusedSimpArgs false
set_option linter.unusedVariables false
attribute [local irreducible] SemK UnitK StK AlcK BslK CallK CallV Instr.box Builtin.append_ Instr.makeSlice Instr.makeMap Instr.lookup Instr.mapUpdate Instr.sliceAt convert
open Go.RowKit
def ApR (w:World) (l:List Col) (n:Nat) (x:Except (Int×Int) (List (List Val))) (res:Value) (w':World):Prop :=
  match x with
  | .error p=>p.2≠0∧res=.tuple #[.agg #[.slice none 0 0,.slice none 0 0],I p.1,I p.2]∧Ext w w'
  | .ok R=>∃ a b us,res=.tuple #[.agg #[a,b],I n,I 0]∧Sep w w' [accC a 74 eC l,accC b 79 eV us,frzC eVal us R]
theorem liveM_take:∀ (a:List (List Val)) (g:List Bool) (k:Nat),a.length=g.length→k < a.length→liveM (a.take (k+1)) (g.take (k+1))=liveM (a.take k) (g.take k)++(if g.getD k default=true then [] else [a.getD k []])
  | [],g,k,_,h=>by simp at h
  | r :: a,[],k,h,_=>by simp at h
  | r :: a,b :: g,0,h,_=>by cases b<;>simp [liveM]
  | r :: a,b :: g,k+1,h,h2=>by
    have ih:=liveM_take a g k (by simpa using h) (by simpa using h2)
    simp only [List.take_succ_cons,liveM,List.getD_cons_succ]
    cases b
    · simp only [Bool.false_eq_true,↓reduceIte,List.cons_append]
      rw [←ih]
    · simp only [↓reduceIte]
      rw [←ih]
theorem liveM_len:∀ (a:List (List Val)) (g:List Bool),(liveM a g).length≤a.length
  | [],g=>by simp [liveM]
  | r :: a,[]=>by simp [liveM]
  | r :: a,b :: g=>by
    have:=liveM_len a g
    cases b<;>simp [liveM]<;>omega
theorem stt_range {ps:List Int} {s:Stt} (h:SttOk ps s) {m:Str} {n:Int} (e:s.at_ m=some n):0≤n∧n < s.rows.length∧n < s.gone.length:=by
  obtain ⟨k,rfl,h1,_⟩:=(h.at_ m n).1 e
  have:=h.len
  omega
theorem atsF_step (ps:List Int) (rs:List (List Val)) (k:Nat) (m:Str→Option Int) (h:(k:Int) < rs.length):atsF ps (rs.drop k) k m=atsF ps (rs.drop (k+1)) ((k+1:Nat):Int) (mput m (markM tailW (rs.getD k []) ps) k):=by
  rw [dropD _ _ h,atsF]
  rfl
theorem cstsF_step (ps:List Int) (cs:List Chg) (k:Nat) (s:Stt) (h:(k:Int) < cs.length):cstsF ps (cs.drop k) k s=match cstM ps s (cs.getD k default) with|.error e=>.error ((k:Int),e)|.ok s2=>cstsF ps (cs.drop (k+1)) ((k+1:Nat):Int) s2:=by
  rw [dropD _ _ h,cstsF]
  rfl
theorem rows_set {w:World} {ws:List Value} {rs:List (List Val)} {n:Nat} {v:Value} {r:List Val} (hl:ws.length=rs.length) (hn:n < ws.length) (h:∀ i,i < ws.length→Rd w eVal (ws.getD i default) (rs.getD i [])∧(rs.getD i []).length≤1000000) (hv:Rd w eVal v r) (hr:r.length≤1000000) :
    ∀ i,i < (ws.set n v).length→Rd w eVal ((ws.set n v).getD i default) ((rs.set n r).getD i [])∧((rs.set n r).getD i []).length≤1000000:=by
  intro i hi
  rw [List.length_set] at hi
  rw [getD_setR _ _ _ _ (by omega)]
  rw [List.getD_eq_getElem?_getD,List.getElem?_set]
  by_cases e:n=i
  · subst e;simp [hn,hv,hr]
  · rw [if_neg e,if_neg (Ne.symm e),←List.getD_eq_getElem?_getD]
    exact h i hi
theorem rows_snoc {w:World} {ws:List Value} {rs:List (List Val)} {v:Value} {r:List Val} (hl:ws.length=rs.length) (h:∀ i,i < ws.length→Rd w eVal (ws.getD i default) (rs.getD i [])∧(rs.getD i []).length≤1000000) (hv:Rd w eVal v r) (hr:r.length≤1000000) :
    ∀ i,i < (ws++[v]).length→Rd w eVal ((ws++[v]).getD i default) ((rs++[r]).getD i [])∧((rs++[r]).getD i []).length≤1000000:=by
  intro i hi
  rw [List.length_append,List.length_singleton] at hi
  by_cases e:i < ws.length
  · rw [getD_snoc_lt _ _ _ _ e,getD_snoc_lt _ _ _ _ (by omega)]
    exact h i e
  · have e1:i=ws.length:=by omega
    subst e1
    rw [getD_snoc_eq,hl,getD_snoc_eq]
    exact ⟨hv,hr⟩
def c13l1:MC:=(.seq (.reg [qq 64 (.bin .lss (.tmp 63) (.tmp 62))]) (.seq (.cond (.tmp 64) .skip (.exit 0)) (.seq (.blk 1 (.seq (.reg [qm 65 63,qq 66 (.adr 1 (.tmp 61) (.tmp 63)),qq 67 (.ld none (.tmp 66)),qm 17 65,qm 18 67]) (.reg [qm 68 16,qm 69 18,qm 70 13,qq 71 (.call 38 [(.tmp 69),(.tmp 70)]),qm 72 17,qn (.raw (.mapUpdate 109 (.tmp 68) (.tmp 71) (.tmp 72)) 0)]))) (.reg [qq 73 (.bin .add (.tmp 63) (ki 1)),qm 63 73]))))
def c13l2:MC:=(.seq (.reg [qq 77 (.bin .lss (.tmp 76) (.tmp 75))]) (.seq (.cond (.tmp 77) .skip (.exit 2)) (.seq (.blk 3 (.seq (.reg [qm 78 76,qq 79 (.adr 3 (.tmp 74) (.tmp 76)),qq 80 (.ld (.some 3) (.tmp 79)),qq 20 (.alc 86 [(.int .i64 0),(.slice none 0 0),(.slice none 0 0)]),qm 19 78,qn (.st 3 (.tmp 20) (.tmp 80))]) (.seq (.reg [qq 81 (.ld (.some 3) (.tmp 20)),qm 82 13,qq 83 (.call 39 [(.tmp 81),(.tmp 82)]),qm 21 83]) (.seq (.reg [qm 85 16,qm 86 21,qq 87 (.raw (.lookup 109 (.tmp 85) (.tmp 86) true) 111),qm 84 87,qq 88 (.ext 0 (.tmp 84)),qq 89 (.ext 1 (.tmp 84)),qm 22 88,qm 23 89]) (.blk 4 (.seq (.reg [qq 96 (.fad 0 (.tmp 20)),qq 97 (.ld none (.tmp 96)),qq 98 (.bin .eql (.tmp 97) (ki 3)),qm 99 98,qmt 99 100 23,qq 101 (.pick (.tmp 99) (.tmp 100) (kb false)),qm 95 101]) (.cond (.tmp 95) (.seq (.reg [qq 102 (.bld [(.slice none 0 0),(.slice none 0 0)] []),qm 103 19,qn (.st 2 (.tmp 6) (.tmp 102)),qm 7 103,qq 8 (.mv (ki 15))]) .ret) (.seq (.reg [qq 105 (.fad 0 (.tmp 20)),qq 106 (.ld none (.tmp 105)),qq 107 (.bin .eql (.tmp 106) (ki 3)),qm 104 107]) (.cond (.tmp 104) (.seq (.reg [qm 108 16,qm 109 21,qm 110 14,qq 111 (.len (.tmp 110)),qn (.raw (.mapUpdate 109 (.tmp 108) (.tmp 109) (.tmp 111)) 0)]) (.seq (.reg [qm 112 14,qq 113 (.fad 2 (.tmp 20)),qq 114 (.ld none (.tmp 113)),qq 115 (.bsl 79 [(.slice none 0 0)] 1 [⟨0,⟨1,(.tmp 114)⟩⟩]),qq 116 (.raw (.call ⟨(.builtin .append),#[(.tmp 112),(.tmp 115)],#[25,25]⟩) 25),qm 14 116]) (.reg [qm 117 15,qq 118 (.bsl 4 [(.bool false)] 1 [⟨0,⟨1,(kb false)⟩⟩]),qq 119 (.raw (.call ⟨(.builtin .append),#[(.tmp 117),(.tmp 118)],#[108,108]⟩) 108),qm 15 119]))) (.seq (.reg [qm 121 23,qq 122 (.un .not (.tmp 121)),qm 120 122]) (.cond (.tmp 120) (.seq (.reg [qq 123 (.bld [(.slice none 0 0),(.slice none 0 0)] []),qm 124 19,qn (.st 2 (.tmp 6) (.tmp 123)),qm 7 124,qq 8 (.mv (ki 25))]) .ret) (.seq (.drg [qm 126 14,qm 127 22,qq 128 (.adr 1 (.tmp 126) (.tmp 127)),qq 129 (.ld none (.tmp 128)),qq 130 (.fad 1 (.tmp 20)),qq 131 (.ld none (.tmp 130)),qq 132 (.call 23 [(.tmp 129),(.tmp 131)]),qq 133 (.un .not (.tmp 132)),qm 125 133] (.some (.br [qm 126 14,qm 127 22,qq 128 (.adr 1 (.tmp 126) (.tmp 127)),qq 130 (.fad 1 (.tmp 20))] (.leaf [qq 129 (.ld none (.tmp 128)),qq 131 (.ld none (.tmp 130)),qq 132 (.call 23 [(.tmp 129),(.tmp 131)]),qq 133 (.un .not (.tmp 132)),qm 125 133]) (.leaf [qq 131 (.ld none (.tmp 130)),qq 129 (.ld none (.tmp 128)),qq 132 (.call 23 [(.tmp 129),(.tmp 131)]),qq 133 (.un .not (.tmp 132)),qm 125 133])))) (.cond (.tmp 125) (.seq (.reg [qq 134 (.bld [(.slice none 0 0),(.slice none 0 0)] []),qm 135 19,qn (.st 2 (.tmp 6) (.tmp 134)),qm 7 135,qq 8 (.mv (ki 23))]) .ret) (.seq (.reg [qq 137 (.fad 0 (.tmp 20)),qq 138 (.ld none (.tmp 137)),qq 139 (.bin .eql (.tmp 138) (ki 1)),qm 136 139]) (.cond (.tmp 136) (.seq (.reg [qm 140 16,qm 141 21,qn (.raw (.call ⟨(.builtin .delete),#[(.tmp 140),(.tmp 141)],#[109,9]⟩) 0)]) (.reg [qm 142 15,qm 143 22,qq 144 (.adr 1 (.tmp 142) (.tmp 143)),qn (.st 1 (.tmp 144) (kb true))])) (.reg [qm 90 14,qm 91 22,qq 92 (.fad 2 (.tmp 20)),qq 93 (.ld none (.tmp 92)),qq 94 (.adr 1 (.tmp 90) (.tmp 91)),qn (.st 1 (.tmp 94) (.tmp 93))])))))))))))))))) (.reg [qq 145 (.bin .add (.tmp 76) (ki 1)),qm 76 145]))))
def c13l3:MC:=(.seq (.reg [qq 153 (.bin .lss (.tmp 152) (.tmp 151))]) (.seq (.cond (.tmp 153) .skip (.exit 5)) (.seq (.blk 6 (.seq (.reg [qm 154 152,qq 155 (.adr 1 (.tmp 150) (.tmp 152)),qq 156 (.ld none (.tmp 155)),qm 25 154,qm 26 156]) (.seq (.reg [qm 157 15,qm 158 25,qq 159 (.adr 1 (.tmp 157) (.tmp 158)),qq 160 (.ld none (.tmp 159)),qq 161 (.un .not (.tmp 160))]) (.cond (.tmp 161) (.drg [qq 162 (.fad 1 (.tmp 24)),qq 163 (.ld none (.tmp 162)),qm 164 26,qq 165 (.call 22 [(.tmp 164)]),qq 166 (.bsl 79 [(.slice none 0 0)] 1 [⟨0,⟨1,(.tmp 165)⟩⟩]),qq 167 (.raw (.call ⟨(.builtin .append),#[(.tmp 163),(.tmp 166)],#[25,25]⟩) 25),qq 168 (.fad 1 (.tmp 24)),qn (.st 1 (.tmp 168) (.tmp 167))] (.some (.br [qq 162 (.fad 1 (.tmp 24)),qm 164 26] (.leaf [qq 163 (.ld none (.tmp 162)),qq 165 (.call 22 [(.tmp 164)]),qq 166 (.bsl 79 [(.slice none 0 0)] 1 [⟨0,⟨1,(.tmp 165)⟩⟩]),qq 167 (.raw (.call ⟨(.builtin .append),#[(.tmp 163),(.tmp 166)],#[25,25]⟩) 25),qq 168 (.fad 1 (.tmp 24)),qn (.st 1 (.tmp 168) (.tmp 167))]) (.br [qq 165 (.call 22 [(.tmp 164)])] (.leaf [qq 163 (.ld none (.tmp 162)),qq 166 (.bsl 79 [(.slice none 0 0)] 1 [⟨0,⟨1,(.tmp 165)⟩⟩]),qq 167 (.raw (.call ⟨(.builtin .append),#[(.tmp 163),(.tmp 166)],#[25,25]⟩) 25),qq 168 (.fad 1 (.tmp 24)),qn (.st 1 (.tmp 168) (.tmp 167))]) (.leaf [qq 166 (.bsl 79 [(.slice none 0 0)] 1 [⟨0,⟨1,(.tmp 165)⟩⟩]),qq 163 (.ld none (.tmp 162)),qq 167 (.raw (.call ⟨(.builtin .append),#[(.tmp 163),(.tmp 166)],#[25,25]⟩) 25),qq 168 (.fad 1 (.tmp 24)),qn (.st 1 (.tmp 168) (.tmp 167))]))))) .skip)))) (.reg [qq 169 (.bin .add (.tmp 152) (ki 1)),qm 152 169]))))
def c13:MC:=(.seq (.reg [qq 3 (.raw (.box 27 (.tmp 0)) 0),qq 6 (.alc 27 [(.slice none 0 0),(.slice none 0 0)]),qq 7 (.mv (ki 0)),qq 8 (.mv (ki 0))]) (.seq (.seq (.reg [qq 28 (.ld (.some 2) (.tmp 3)),qm 29 1,qq 30 (.call 19 [(.tmp 28),(.tmp 29)]),qm 27 30,qq 31 (.ext 0 (.tmp 27)),qq 32 (.ext 1 (.tmp 27)),qm 9 31,qm 10 32]) (.seq (.reg [qm 33 10,qq 34 (.bin .neq (.tmp 33) (ki 0))]) (.cond (.tmp 34) (.seq (.reg [qq 35 (.bld [(.slice none 0 0),(.slice none 0 0)] []),qm 36 10,qn (.st 2 (.tmp 6) (.tmp 35)),qq 7 (.mv (ki 0)),qm 8 36]) .ret) .skip))) (.seq (.seq (.reg [qq 38 (.fad 0 (.tmp 3)),qq 39 (.ld none (.tmp 38)),qm 40 1,qm 41 2,qq 42 (.call 35 [(.tmp 39),(.tmp 40),(.tmp 41)]),qm 37 42,qq 43 (.ext 0 (.tmp 37)),qq 44 (.ext 1 (.tmp 37)),qm 11 43,qm 12 44]) (.seq (.reg [qm 45 12,qq 46 (.bin .neq (.tmp 45) (ki 0))]) (.cond (.tmp 46) (.seq (.reg [qq 47 (.bld [(.slice none 0 0),(.slice none 0 0)] []),qm 48 11,qm 49 12,qn (.st 2 (.tmp 6) (.tmp 47)),qm 7 48,qm 8 49]) .ret) .skip))) (.seq (.reg [qq 50 (.fad 0 (.tmp 3)),qq 51 (.ld none (.tmp 50)),qm 52 1,qq 53 (.call 36 [(.tmp 51),(.tmp 52)]),qm 13 53]) (.seq (.reg [qq 54 (.fad 1 (.tmp 3)),qq 55 (.ld none (.tmp 54)),qq 56 (.call 37 [(.tmp 55)]),qm 14 56]) (.seq (.reg [qm 57 14,qq 58 (.len (.tmp 57)),qq 59 (.raw (.makeSlice 108 (.tmp 58) (.tmp 58)) 108),qm 15 59]) (.seq (.reg [qq 60 (.raw (.makeMap 109 none) 109),qm 16 60]) (.seq (.seq (.reg [qm 61 14,qq 62 (.len (.tmp 61)),qq 63 (.mv (ki 0))]) (.blk 0 (.loop c13l1))) (.seq (.seq (.reg [qm 74 2,qq 75 (.len (.tmp 74)),qq 76 (.mv (ki 0))]) (.blk 2 (.loop c13l2))) (.seq (.reg [qq 146 (.fad 0 (.tmp 3)),qq 147 (.ld none (.tmp 146)),qq 148 (.call 40 [(.tmp 147)]),qq 149 (.bld [(.slice none 0 0),(.slice none 0 0)] [⟨0,⟨1,(.tmp 148)⟩⟩]),qq 24 (.alc 27 [(.slice none 0 0),(.slice none 0 0)]),qn (.st 2 (.tmp 24) (.tmp 149))]) (.seq (.seq (.reg [qm 150 14,qq 151 (.len (.tmp 150)),qq 152 (.mv (ki 0))]) (.blk 5 (.loop c13l3))) (.seq (.reg [qq 170 (.ld (.some 2) (.tmp 24)),qm 171 2,qq 172 (.len (.tmp 171)),qn (.st 2 (.tmp 6) (.tmp 170)),qm 7 172,qq 8 (.mv (ki 0))]) .ret))))))))))))
theorem k13:conv Tryz.prog 173 (Tryz.f13.body.getD .skip)=c13:=by kernel_rfl
theorem in13 {a0 a1 a2:Value} {w:World} {R:Value→World→Prop} (h:G Tryz.prog Tryz.f13 173 [.c c13] R (frL 0 [a0,a1,a2]) w):Ret Tryz.prog 13 #[a0,a1,a2] w R:=G.enter (args:=[a0,a1,a2]) Tryz.func13 (c:=Tryz.f13.body.getD .skip) (by kernel_rfl) (by kernel_rfl) (by simp) k13 h
attribute [local irreducible] accC boxC mapC frzC
def applyT:MC:=match c13 with
  | .seq _ (.seq _ (.seq _ (.seq _ (.seq _ (.seq _ (.seq _ (.seq _ (.seq _ t))))))))=>t
  | _=>.skip
def applyT2:MC:=match c13 with
  | .seq _ (.seq _ (.seq _ (.seq _ (.seq _ (.seq _ (.seq _ (.seq _ t)))))))=>t
  | _=>.skip
set_option maxHeartbeats 1000000 in
theorem apply_tail {vl vr vc:Value} {l:List Col} {s:Stt} {ws:List Value} {ps:List Int} {lp lr lg:Value} {gm g6 g3:Nat} {n n0:Nat} {w wl:World} {u:Fr} (h0:Rd w eC vl l) (hll:l.length≤1000000) {xs:List (Int×Value×Value)} (c1:Rd w eCg vc xs) (hn0:xs.length=n0)
    (hs:SttOk ps s) (hwl:ws.length=s.rows.length) (hwr:∀ i,i < ws.length→Rd w eVal (ws.getD i default) (s.rows.getD i [])∧(s.rows.getD i []).length≤1000000) (hlr:s.rows.length≤2000000)
    (q2:u 2=vc) (q3:u 3=.pointer (some ⟨g3,0,none⟩)) (q6:u 6=.pointer (some ⟨g6,0,none⟩)) (q14:u 14=lr) (q15:u 15=lg)
    (hS:Sep w wl [accC lr 79 eV ws,accC lg 4 eB s.gone,mapC gm I s.at_,accC lp 3 eI ps,boxC g6 27 [.slice none 0 0,.slice none 0 0],boxC g3 27 [vl,vr]]) :
    G Tryz.prog Tryz.f13 n [.c applyT] (ApR w l n0 (.ok (liveM s.rows s.gone))) u wl:=by
  unfold applyT c13
  dsimp only
  have hgl:=hs.len
  have hla:=liveM_len s.rows s.gone
  have hbd3:=c1.bd
  (have fct:=(And.intro @q2 (And.intro @q3 (And.intro @q6 (And.intro @q14 @q15))));repeat' (first|((with_reducible apply G.a);exact rfl)|refine G.reg fun K hK=>?_|(with_reducible (refine hK _ _ ?_);clear hK K)|(with_reducible (refine hK _ ?_);clear hK K;intro wd hxd;have hS:=Sep.xx hxd)|((first|have hk:=hK|have hk:=hK2);clear hk;simp (disch:=first|exact dis|fail) only [push_cast,↓reduceIte,zq1,zq2,zq3,zq4,zq5,fct])|((first|refine brO_n ?_ ?_|refine brQ_n ?_ ?_)<;>intro hb hc<;>first|(with_reducible exact False.elim hc)|(exfalso;omega)|(simp only [hb];clear hb))|((first|refine zalc ?_|refine zbsl ?_|((with_reducible refine gBox ?_);refine zbox ?_));intro gb wb hS)|((with_reducible refine gSt ?_);refine zs2 ?_;intro wb hS)|(refine zco 40 (cloneC_spec (h0.ext hS.x) (by omega)) ?_;rintro vb wb hS2;have hS:=hS2.ap;simp only [apps] at hS)|(refine G.drt mixed fun K hK wd hxd=>?_;have hS:=Sep.xx hxd)|with_reducible refine OT_leaf ?_|(with_reducible (refine hK2 _ ?_);clear hK2 K2;intro wd hxd;have hS:=Sep.xx hxd)|with_reducible refine OT_br fun K2 hK2=>?_|(refine hK2 _ _ ?_ ?_<;>clear hK2 K2)|refine G.drg mixed fun K hK=>?_|(refine G.cn ?_ ?_<;>intro hc<;>first|(with_reducible exact False.elim hc)|(exfalso;omega)|skip)))<;>(try clear fct)
  all_goals
  have hS:=(hS.nil 79 eV).frz0 eVal
  refine G.loop (fun r w'=>∃ (k:Nat) (lr lg a lb:Value) (g6 go:Nat) (us:List Value),k≤ws.length∧r 152=I k∧r 151=I ws.length∧r 150=lr∧r 2=vc∧r 6=.pointer (some ⟨g6,0,none⟩)∧r 15=lg∧r 24=.pointer (some ⟨go,0,none⟩) ∧
      Sep w w' [accC lb 79 eV us,frzC eVal us (liveM (s.rows.take k) (s.gone.take k)),boxC go 27 [a,lb],accC a 74 eC l,accC lr 79 eV ws,accC lg 4 eB s.gone,boxC g6 27 [.slice none 0 0,.slice none 0 0]]) (fun r _=>ws.length - toN (r 152)) ?_ ?_
  · have fct:=(And.intro @q2 (And.intro @q3 (And.intro @q6 (And.intro @q14 @q15))));exact ⟨0,lr,lg,_,.slice none 0 0,g6,_,[],Nat.zero_le _,by exact sf,by exact sf,by exact sf,by exact sf,by exact sf,by exact sf,by exact sf,(Sep.sub hS (by repeat first|exact Sub.rfl'|exact Sub.nil0|(refine Sub.c (by repeat constructor) ?_)|refine Sub.skip ?_))⟩
  · clear hS q2 q3 q6 q14 q15
    rintro u3 wl3 ⟨k3,lr,lg,a,lb,g6,go,us,hk3,q152,q151,q150,q2,q6,q15,q24,hS⟩ ih
    have hm:toN (u3 152)=k3:=by rw [q152];simp [toN]
    have hfl:=hS.frzLen (.t .h)
    by_cases hlt3:(k3:Int) < ws.length
    · have htk:=liveM_take s.rows s.gone k3 hgl (by omega)
      have hul:=liveM_len (s.rows.take k3) (s.gone.take k3)
      rw [List.length_take] at hul
      obtain ⟨hrk,hrl⟩:=hwr k3 (by omega)
      generalize s.rows.getD k3 []=rk at htk hrk hrl
      have hcl:=fun (w2:World) (hx:Ext w w2)=>cloneV_spec (w:=w2) (hrk.ext hx) (by omega)
      generalize hgk:s.gone.getD k3 default=gk at *
      cases gk
      · rw [if_neg (by simp)] at htk
        (have fct:=(And.intro @q152 (And.intro @q151 (And.intro @q150 (And.intro @q2 (And.intro @q6 (And.intro @q15 (And.intro @q24 @hgk)))))));repeat' (first|((with_reducible apply G.a);exact rfl)|refine G.reg fun K hK=>?_|(with_reducible (refine hK _ _ ?_);clear hK K)|(with_reducible (refine hK _ ?_);clear hK K;intro wd hxd;have hS:=Sep.xx hxd)|((first|have hk:=hK|have hk:=hK2);clear hk;simp (disch:=first|exact dis|fail) only [push_cast,↓reduceIte,zq1,zq2,zq3,zq4,zq5,fct])|((first|refine brO_n ?_ ?_|refine brQ_n ?_ ?_)<;>intro hb hc<;>first|(with_reducible exact False.elim hc)|(exfalso;omega)|(simp only [hb];clear hb))|((first|refine zalc ?_|refine zbsl ?_|((with_reducible refine gBox ?_);refine zbox ?_));intro gb wb hS)|((with_reducible refine gSt ?_);refine zs2 ?_;intro wb hS)|(refine zco 22 (hcl _ hS.x) ?_;rintro vb wb hS2;have hS:=hS2.ap;simp only [apps] at hS)|(refine zap ?_;intro vb wb hS)|(with_reducible refine And.intro (a:=OT _ _ _ _ _) (b:=OT _ _ _ _ _) ?_ ?_)|(refine G.drt mixed fun K hK wd hxd=>?_;have hS:=Sep.xx hxd)|with_reducible refine OT_leaf ?_|(with_reducible (refine hK2 _ ?_);clear hK2 K2;intro wd hxd;have hS:=Sep.xx hxd)|with_reducible refine OT_br fun K2 hK2=>?_|(refine hK2 _ _ ?_ ?_<;>clear hK2 K2)|refine G.drg mixed fun K hK=>?_|(refine G.cn ?_ ?_<;>intro hc<;>first|(with_reducible exact False.elim hc)|(exfalso;omega)|skip)))<;>(try clear fct)
        all_goals
          have hS:=hS.frzPush .h (.t .h)
          rw [←htk] at hS
          have fct:=(And.intro @q152 (And.intro @q151 (And.intro @q150 (And.intro @q2 (And.intro @q6 (And.intro @q15 @q24))))));refine ih _ _ ⟨k3+1,lr,lg,a,_,g6,go,_,by omega,by exact sf,by exact sf,by exact sf,by exact sf,by exact sf,by exact sf,by exact sf,(Sep.sub hS (by repeat first|exact Sub.rfl'|exact Sub.nil0|(refine Sub.c (by repeat constructor) ?_)|refine Sub.skip ?_))⟩ ?_
          rw [hm];simp only [push_cast,↓reduceIte,zq1,zq2,zq3,zq4,zq5,toN_i,q152,q151,q150,q2,q6,q15,q24];omega
      · rw [if_pos rfl,List.append_nil] at htk
        (have fct:=(And.intro @q152 (And.intro @q151 (And.intro @q150 (And.intro @q2 (And.intro @q6 (And.intro @q15 (And.intro @q24 @hgk)))))));repeat' (first|((with_reducible apply G.a);exact rfl)|refine G.reg fun K hK=>?_|(with_reducible (refine hK _ _ ?_);clear hK K)|(with_reducible (refine hK _ ?_);clear hK K;intro wd hxd;have hS:=Sep.xx hxd)|((first|have hk:=hK|have hk:=hK2);clear hk;simp (disch:=first|exact dis|fail) only [push_cast,↓reduceIte,zq1,zq2,zq3,zq4,zq5,fct])|((first|refine brO_n ?_ ?_|refine brQ_n ?_ ?_)<;>intro hb hc<;>first|(with_reducible exact False.elim hc)|(exfalso;omega)|(simp only [hb];clear hb))|((first|refine zalc ?_|refine zbsl ?_|((with_reducible refine gBox ?_);refine zbox ?_));intro gb wb hS)|((with_reducible refine gSt ?_);refine zs2 ?_;intro wb hS)|(refine G.drt mixed fun K hK wd hxd=>?_;have hS:=Sep.xx hxd)|with_reducible refine OT_leaf ?_|(with_reducible (refine hK2 _ ?_);clear hK2 K2;intro wd hxd;have hS:=Sep.xx hxd)|with_reducible refine OT_br fun K2 hK2=>?_|(refine hK2 _ _ ?_ ?_<;>clear hK2 K2)|refine G.drg mixed fun K hK=>?_|(refine G.cn ?_ ?_<;>intro hc<;>first|(with_reducible exact False.elim hc)|(exfalso;omega)|skip)))<;>(try clear fct)
        all_goals
          have fct:=(And.intro @q152 (And.intro @q151 (And.intro @q150 (And.intro @q2 (And.intro @q6 (And.intro @q15 @q24))))));refine ih _ _ ⟨k3+1,lr,lg,a,lb,g6,go,us,by omega,by exact sf,by exact sf,by exact sf,by exact sf,by exact sf,by exact sf,by exact sf,by rw [htk];exact (Sep.sub hS (by repeat first|exact Sub.rfl'|exact Sub.nil0|(refine Sub.c (by repeat constructor) ?_)|refine Sub.skip ?_))⟩ ?_
          rw [hm];simp only [push_cast,↓reduceIte,zq1,zq2,zq3,zq4,zq5,toN_i,q152,q151,q150,q2,q6,q15,q24];omega
    · rw [List.take_of_length_le (by omega),List.take_of_length_le (by omega)] at hS
      (have fct:=(And.intro @q152 (And.intro @q151 (And.intro @q150 (And.intro @q2 (And.intro @q6 (And.intro @q15 @q24))))));repeat' (first|((with_reducible apply G.a);exact rfl)|refine G.reg fun K hK=>?_|(with_reducible (refine hK _ _ ?_);clear hK K)|(with_reducible (refine hK _ ?_);clear hK K;intro wd hxd;have hS:=Sep.xx hxd)|((first|have hk:=hK|have hk:=hK2);clear hk;simp (disch:=first|exact dis|fail) only [push_cast,↓reduceIte,zq1,zq2,zq3,zq4,zq5,fct])|((first|refine brO_n ?_ ?_|refine brQ_n ?_ ?_)<;>intro hb hc<;>first|(with_reducible exact False.elim hc)|(exfalso;omega)|(simp only [hb];clear hb))|((first|refine zalc ?_|refine zbsl ?_|((with_reducible refine gBox ?_);refine zbox ?_));intro gb wb hS)|((with_reducible refine gSt ?_);refine zs2 ?_;intro wb hS)|(refine G.drt mixed fun K hK wd hxd=>?_;have hS:=Sep.xx hxd)|with_reducible refine OT_leaf ?_|(with_reducible (refine hK2 _ ?_);clear hK2 K2;intro wd hxd;have hS:=Sep.xx hxd)|with_reducible refine OT_br fun K2 hK2=>?_|(refine hK2 _ _ ?_ ?_<;>clear hK2 K2)|refine G.drg mixed fun K hK=>?_|(refine G.cn ?_ ?_<;>intro hc<;>first|(with_reducible exact False.elim hc)|(exfalso;omega)|skip)))<;>(try clear fct)
      all_goals
        (have fct:=(And.intro @q152 (And.intro @q151 (And.intro @q150 (And.intro @q2 (And.intro @q6 (And.intro @q15 @q24))))));(first|refine G.r1 ?_|refine G.r2 ?_|refine G.r3 ?_|refine G.r0 ?_|refine G.d0 ?_);(try simp (disch:=first|exact dis|fail) only [push_cast,↓reduceIte,zq1,zq2,zq3,zq4,zq5,fct]);(try clear fct))
        exact ⟨_,_,_,by rw [hn0],(Sep.sub hS (by repeat first|exact Sub.rfl'|exact Sub.nil0|(refine Sub.c (by repeat constructor) ?_)|refine Sub.skip ?_))⟩
end Go.Proofs.YtjajihaeoolefaaGreatDoor
namespace Go.Proofs.YtjajihaeoolefaaGreatDoor
open Nat renaming reduceAdd→zq1,reduceLeDiff→zq2,reduceEqDiff→zq3,reduceLT→zq4
open Int renaming reduceToNat→zq5
set_option linter.unusedSimpArgs false
set_option linter.unusedVariables false
attribute [local irreducible] SemK UnitK StK AlcK BslK CallK CallV Instr.box Builtin.append_ Instr.makeSlice Instr.makeMap Instr.lookup Instr.mapUpdate Instr.sliceAt convert
open Go.RowKit
attribute [local irreducible] accC boxC mapC frzC
def applyL2:MC:=match c13 with
  | .seq _ (.seq _ (.seq _ (.seq _ (.seq _ (.seq _ (.seq _ (.seq _ (.seq t _))))))))=>t
  | _=>.skip
theorem applyT2_eq:applyT2=.seq applyL2 applyT:=rfl
set_option maxHeartbeats 4000000 in
theorem apply_tail2 {vl vr vc:Value} {l:List Col} {cs:List Chg} {s0:Stt} {vs:List Value} {ps:List Int} {lp lr lg:Value} {gm g6 g3:Nat} {n n0:Nat} {w wl:World} {u:Fr} (h0:Rd w eC vl l) (hll:l.length≤1000000) {xs:List (Int×Value×Value)} (c1:Rd w eCg vc xs) (hn0:xs.length=n0)
    (m1:xs.length=cs.length) (j1:∀ i,i < xs.length→(xs.getD i default).1=(cs.getD i default).kind∧Rd w eVal (xs.getD i default).2.1 (cs.getD i default).old∧Rd w eVal (xs.getD i default).2.2 (cs.getD i default).new)
    (hfc:FineC cs) (hb2:cs.length≤1000000) (hfp:FineP ps l.length) (hT:Tab w) (oo:∀ c∈cs,oneM l.length ps c=0)
    (hs0:SttOk ps s0) (hvl:vs.length=s0.rows.length) (hvr:∀ i,i < vs.length→Rd w eVal (vs.getD i default) (s0.rows.getD i [])∧(s0.rows.getD i []).length≤1000000) (hlr0:s0.rows.length≤1000000)
    (q2:u 2=vc) (q3:u 3=.pointer (some ⟨g3,0,none⟩)) (q6:u 6=.pointer (some ⟨g6,0,none⟩)) (q13:u 13=lp) (q14:u 14=lr) (q15:u 15=lg) (q16:u 16=.map (some gm))
    (hS:Sep w wl [accC lr 79 eV vs,accC lg 4 eB s0.gone,mapC gm I s0.at_,accC lp 3 eI ps,boxC g6 27 [.slice none 0 0,.slice none 0 0],boxC g3 27 [vl,vr]]) :
    G Tryz.prog Tryz.f13 n [.c applyT2] (ApR w l n0 (match cstsF ps cs 0 s0 with|.error x=>.error x|.ok s=>.ok (liveM s.rows s.gone))) u wl:=by
  rw [applyT2_eq]
  have hTl:=fun (s:Stt) (ws:List Value) (lp lr lg:Value) (gm g6 g3:Nat) (n:Nat) (wl:World) (u:Fr)=>@apply_tail vl vr vc l s ws ps lp lr lg gm g6 g3 n n0 w wl u h0 hll xs c1 hn0
  generalize applyT=T at hTl ⊢
  unfold applyL2 c13
  dsimp only
  have hbd3:=c1.bd
  (have fct:=(And.intro @q2 (And.intro @q3 (And.intro @q6 (And.intro @q13 (And.intro @q14 (And.intro @q15 @q16))))));repeat' (first|((with_reducible apply G.a);exact rfl)|refine G.reg fun K hK=>?_|(with_reducible (refine hK _ _ ?_);clear hK K)|(with_reducible (refine hK _ ?_);clear hK K;intro wd hxd;have hS:=Sep.xx hxd)|((first|have hk:=hK|have hk:=hK2);clear hk;simp (disch:=first|exact dis|fail) only [push_cast,↓reduceIte,zq1,zq2,zq3,zq4,zq5,fct])|((first|refine brO_n ?_ ?_|refine brQ_n ?_ ?_)<;>intro hb hc<;>first|(with_reducible exact False.elim hc)|(exfalso;omega)|(simp only [hb];clear hb))|((first|refine zalc ?_|refine zbsl ?_|((with_reducible refine gBox ?_);refine zbox ?_));intro gb wb hS)|((with_reducible refine gSt ?_);refine zs2 ?_;intro wb hS)|(refine G.drt mixed fun K hK wd hxd=>?_;have hS:=Sep.xx hxd)|with_reducible refine OT_leaf ?_|(with_reducible (refine hK2 _ ?_);clear hK2 K2;intro wd hxd;have hS:=Sep.xx hxd)|with_reducible refine OT_br fun K2 hK2=>?_|(refine hK2 _ _ ?_ ?_<;>clear hK2 K2)|refine G.drg mixed fun K hK=>?_|(refine G.cn ?_ ?_<;>intro hc<;>first|(with_reducible exact False.elim hc)|(exfalso;omega)|skip)))<;>(try clear fct)
  all_goals
  refine G.loop (fun r w'=>∃ (k:Nat) (lp lr lg:Value) (gm g6 g3:Nat) (s:Stt) (ws:List Value),k≤xs.length∧r 76=I k∧r 75=I xs.length∧r 74=vc∧r 2=vc∧r 3=.pointer (some ⟨g3,0,none⟩)∧r 6=.pointer (some ⟨g6,0,none⟩)∧r 13=lp∧r 14=lr∧r 15=lg∧r 16=.map (some gm) ∧
      SttOk ps s∧ws.length=s.rows.length∧(∀ i,i < ws.length→Rd w eVal (ws.getD i default) (s.rows.getD i [])∧(s.rows.getD i []).length≤1000000)∧s.rows.length≤1000000+k∧cstsF ps cs 0 s0=cstsF ps (cs.drop k) k s ∧
      Sep w w' [accC lr 79 eV ws,accC lg 4 eB s.gone,mapC gm I s.at_,accC lp 3 eI ps,boxC g6 27 [.slice none 0 0,.slice none 0 0],boxC g3 27 [vl,vr]]) (fun r _=>xs.length - toN (r 76)) ?_ ?_
  · have fct:=(And.intro @q2 (And.intro @q3 (And.intro @q6 (And.intro @q13 (And.intro @q14 (And.intro @q15 @q16))))));exact ⟨0,lp,lr,lg,gm,g6,g3,s0,vs,Nat.zero_le _,by exact sf,by exact sf,by exact sf,by exact sf,by exact sf,by exact sf,by exact sf,by exact sf,by exact sf,by exact sf,hs0,hvl,hvr,by omega,rfl,(Sep.sub hS (by repeat first|exact Sub.rfl'|exact Sub.nil0|(refine Sub.c (by repeat constructor) ?_)|refine Sub.skip ?_))⟩
  · clear hS q2 q3 q6 q13 q14 q15 q16
    rintro u2 wl2 ⟨k2,lp,lr,lg,gm,g6,g3,s,ws,hk2,q76,q75,q74,q2,q3,q6,q13,q14,q15,q16,hs,hwl,hwr,hlr,e,hS⟩ ih
    have hm:toN (u2 76)=k2:=by rw [q76];simp [toN]
    by_cases hlt2:(k2:Int) < xs.length
    · rw [cstsF_step ps cs k2 s (by omega)] at e
      have hoc:=oo (cs.getD k2 default) (getD_mem cs k2 (by omega))
      obtain ⟨y1,y2,y3⟩:=j1 k2 (by omega)
      obtain ⟨f1,f2⟩:=hfc k2 (by omega)
      generalize cs.getD k2 default=c at e hoc y1 y2 y3 f1 f2
      generalize hx:xs.getD k2 default=x at *
      obtain ⟨xk,xo,xn⟩:=x
      simp only [] at y1 y2 y3
      subst y1
      obtain ⟨o1,o2,o3,o4,o5,o6⟩:=oneM_ok hoc
      have hkc:=fun (w2:World) (hx:Ext w w2) (hp:Rd w2 eI lp ps)=>key_spec (w:=w2) (y2.ext hx) (y3.ext hx) hp f1 f2 (fun h=>⟨hfp.1,fun p hp=>by have:=hfp.2 p hp;have:=(o4 h).1;omega⟩) (fun h=>⟨hfp.1,fun p hp=>by have:=hfp.2 p hp;have:=(o5 (by omega)).1;omega⟩) (hT.ext hx)
      have hcst:cstM ps s c=match s.at_ (keyM ps c) with|none=>if c.kind=3 then .ok ⟨s.rows++[c.new],s.gone++[false],mput s.at_ (keyM ps c) (s.rows.length:Int)⟩ else .error 25|some n=>if c.kind=3 then .error 15 else if s.rows.getD n.toNat []≠c.old then .error 23 else if c.kind=1 then .ok ⟨s.rows,s.gone.set n.toNat true,mdel s.at_ (keyM ps c)⟩ else .ok ⟨s.rows.set n.toNat c.new,s.gone,s.at_⟩:=rfl
      have hcok:=fun s' h=>(cst_ok (s':=s') hs hoc h).1
      rw [hcst] at e hcok
      clear hcst
      have hrg:=fun n=>stt_range (n:=n) hs (m:=keyM ps c)
      generalize keyM ps c=mk at e hkc hcok hrg
      have hgl:=hs.len
      cases ha:s.at_ mk with
      | none =>
        rw [ha] at e hcok
        simp only [] at e hcok
        by_cases hk3:c.kind=3
        · rw [if_pos hk3] at e hcok
          rw [hk3] at hkc
          simp only [] at e
          have hns:=hcok _ rfl
          have hnw:=rows_snoc hwl hwr y3 (by have:=(o5 (by omega)).1;omega)
          (have fct:=(And.intro @q76 (And.intro @q75 (And.intro @q74 (And.intro @q2 (And.intro @q3 (And.intro @q6 (And.intro @q13 (And.intro @q14 (And.intro @q15 (And.intro @q16 (And.intro @hx (And.intro @hk3 @ha))))))))))));repeat' (first|((with_reducible apply G.a);exact rfl)|refine G.reg fun K hK=>?_|(with_reducible (refine hK _ _ ?_);clear hK K)|(with_reducible (refine hK _ ?_);clear hK K;intro wd hxd;have hS:=Sep.xx hxd)|((first|have hk:=hK|have hk:=hK2);clear hk;simp (disch:=first|exact dis|fail) only [push_cast,↓reduceIte,zq1,zq2,zq3,zq4,zq5,fct])|((first|refine brO_n ?_ ?_|refine brQ_n ?_ ?_)<;>intro hb hc<;>first|(with_reducible exact False.elim hc)|(exfalso;omega)|(simp only [hb];clear hb))|((first|refine zalc ?_|refine zbsl ?_|((with_reducible refine gBox ?_);refine zbox ?_));intro gb wb hS)|((with_reducible refine gSt ?_);refine zs2 ?_;intro wb hS)|(refine zcp 39 (hkc _ hS.x (Sep.rd hS (by repeat constructor))) ?_;intro wb hS)|(refine zlk ?_)|(refine zmu ?_;intro wb hS)|(refine zap ?_;intro vb wb hS)|(refine G.drt mixed fun K hK wd hxd=>?_;have hS:=Sep.xx hxd)|with_reducible refine OT_leaf ?_|(with_reducible (refine hK2 _ ?_);clear hK2 K2;intro wd hxd;have hS:=Sep.xx hxd)|with_reducible refine OT_br fun K2 hK2=>?_|(refine hK2 _ _ ?_ ?_<;>clear hK2 K2)|refine G.drg mixed fun K hK=>?_|(refine G.cn ?_ ?_<;>intro hc<;>first|(with_reducible exact False.elim hc)|(exfalso;omega)|skip)))<;>(try clear fct)
          all_goals
            have fct:=(And.intro @q76 (And.intro @q75 (And.intro @q74 (And.intro @q2 (And.intro @q3 (And.intro @q6 (And.intro @q13 (And.intro @q14 (And.intro @q15 @q16)))))))));refine ih _ _ ⟨k2+1,lp,_,_,gm,g6,g3,_,ws++[xn],by omega,by exact sf,by exact sf,by exact sf,by exact sf,by exact sf,by exact sf,by exact sf,by exact sf,by exact sf,by exact sf,hns,by simp [hwl],hnw,by simp;omega,e,by rw [←hwl];exact (Sep.sub hS (by repeat first|exact Sub.rfl'|exact Sub.nil0|(refine Sub.c (by repeat constructor) ?_)|refine Sub.skip ?_))⟩ ?_
            rw [hm];simp only [push_cast,↓reduceIte,zq1,zq2,zq3,zq4,zq5,toN_i,q76,q75,q74,q2,q3,q6,q13,q14,q15,q16];omega
        · rw [if_neg hk3] at e
          simp only [] at e
          rw [e]
          (have fct:=(And.intro @q76 (And.intro @q75 (And.intro @q74 (And.intro @q2 (And.intro @q3 (And.intro @q6 (And.intro @q13 (And.intro @q14 (And.intro @q15 (And.intro @q16 (And.intro @hx (And.intro @hk3 @ha))))))))))));repeat' (first|((with_reducible apply G.a);exact rfl)|refine G.reg fun K hK=>?_|(with_reducible (refine hK _ _ ?_);clear hK K)|(with_reducible (refine hK _ ?_);clear hK K;intro wd hxd;have hS:=Sep.xx hxd)|((first|have hk:=hK|have hk:=hK2);clear hk;simp (disch:=first|exact dis|fail) only [push_cast,↓reduceIte,zq1,zq2,zq3,zq4,zq5,fct])|((first|refine brO_n ?_ ?_|refine brQ_n ?_ ?_)<;>intro hb hc<;>first|(with_reducible exact False.elim hc)|(exfalso;omega)|(simp only [hb];clear hb))|((first|refine zalc ?_|refine zbsl ?_|((with_reducible refine gBox ?_);refine zbox ?_));intro gb wb hS)|((with_reducible refine gSt ?_);refine zs2 ?_;intro wb hS)|(refine zcp 39 (hkc _ hS.x (Sep.rd hS (by repeat constructor))) ?_;intro wb hS)|(refine zlk ?_)|(refine G.drt mixed fun K hK wd hxd=>?_;have hS:=Sep.xx hxd)|with_reducible refine OT_leaf ?_|(with_reducible (refine hK2 _ ?_);clear hK2 K2;intro wd hxd;have hS:=Sep.xx hxd)|with_reducible refine OT_br fun K2 hK2=>?_|(refine hK2 _ _ ?_ ?_<;>clear hK2 K2)|refine G.drg mixed fun K hK=>?_|(refine G.cn ?_ ?_<;>intro hc<;>first|(with_reducible exact False.elim hc)|(exfalso;omega)|skip)))<;>(try clear fct)
          all_goals
            (have fct:=(And.intro @q76 (And.intro @q75 (And.intro @q74 (And.intro @q2 (And.intro @q3 (And.intro @q6 (And.intro @q13 (And.intro @q14 (And.intro @q15 @q16)))))))));(first|refine G.r1 ?_|refine G.r2 ?_|refine G.r3 ?_|refine G.r0 ?_|refine G.d0 ?_);(try simp (disch:=first|exact dis|fail) only [push_cast,↓reduceIte,zq1,zq2,zq3,zq4,zq5,fct]);(try clear fct))
            exact ⟨by simp,rfl,Sep.xt (by assumption)⟩
      | some n =>
        rw [ha] at e hcok
        simp only [] at e hcok
        obtain ⟨n0,n1,n2⟩:=hrg n ha
        by_cases hk3:c.kind=3
        · rw [if_pos hk3] at e
          rw [hk3] at hkc
          simp only [] at e
          rw [e]
          (have fct:=(And.intro @q76 (And.intro @q75 (And.intro @q74 (And.intro @q2 (And.intro @q3 (And.intro @q6 (And.intro @q13 (And.intro @q14 (And.intro @q15 (And.intro @q16 (And.intro @hx (And.intro @hk3 @ha))))))))))));repeat' (first|((with_reducible apply G.a);exact rfl)|refine G.reg fun K hK=>?_|(with_reducible (refine hK _ _ ?_);clear hK K)|(with_reducible (refine hK _ ?_);clear hK K;intro wd hxd;have hS:=Sep.xx hxd)|((first|have hk:=hK|have hk:=hK2);clear hk;simp (disch:=first|exact dis|fail) only [push_cast,↓reduceIte,zq1,zq2,zq3,zq4,zq5,fct])|((first|refine brO_n ?_ ?_|refine brQ_n ?_ ?_)<;>intro hb hc<;>first|(with_reducible exact False.elim hc)|(exfalso;omega)|(simp only [hb];clear hb))|((first|refine zalc ?_|refine zbsl ?_|((with_reducible refine gBox ?_);refine zbox ?_));intro gb wb hS)|((with_reducible refine gSt ?_);refine zs2 ?_;intro wb hS)|(refine zcp 39 (hkc _ hS.x (Sep.rd hS (by repeat constructor))) ?_;intro wb hS)|(refine zlk ?_)|(refine G.drt mixed fun K hK wd hxd=>?_;have hS:=Sep.xx hxd)|with_reducible refine OT_leaf ?_|(with_reducible (refine hK2 _ ?_);clear hK2 K2;intro wd hxd;have hS:=Sep.xx hxd)|with_reducible refine OT_br fun K2 hK2=>?_|(refine hK2 _ _ ?_ ?_<;>clear hK2 K2)|refine G.drg mixed fun K hK=>?_|(refine G.cn ?_ ?_<;>intro hc<;>first|(with_reducible exact False.elim hc)|(exfalso;omega)|skip)))<;>(try clear fct)
          all_goals
            (have fct:=(And.intro @q76 (And.intro @q75 (And.intro @q74 (And.intro @q2 (And.intro @q3 (And.intro @q6 (And.intro @q13 (And.intro @q14 (And.intro @q15 @q16)))))))));(first|refine G.r1 ?_|refine G.r2 ?_|refine G.r3 ?_|refine G.r0 ?_|refine G.d0 ?_);(try simp (disch:=first|exact dis|fail) only [push_cast,↓reduceIte,zq1,zq2,zq3,zq4,zq5,fct]);(try clear fct))
            exact ⟨by simp,rfl,Sep.xt (by assumption)⟩
        · rw [if_neg hk3] at e hcok
          have hrn:=hwr n.toNat (by omega)
          have heq:=fun (w2:World) (hx:Ext w w2)=>eqV_spec (w:=w2) (hrn.1.ext hx) (y2.ext hx)
          by_cases hq:s.rows.getD n.toNat []=c.old
          · rw [if_neg (not_not_intro hq)] at e hcok
            have hdq:decide (s.rows.getD n.toNat []=c.old)=true:=decide_eq_true hq
            by_cases hk1':c.kind=1
            · rw [if_pos hk1'] at e hcok
              rw [hk1'] at hkc
              simp only [] at e
              have hns:=hcok _ rfl
              (have fct:=(And.intro @q76 (And.intro @q75 (And.intro @q74 (And.intro @q2 (And.intro @q3 (And.intro @q6 (And.intro @q13 (And.intro @q14 (And.intro @q15 (And.intro @q16 (And.intro @hx (And.intro @hk1' (And.intro @ha @hdq)))))))))))));repeat' (first|((with_reducible apply G.a);exact rfl)|refine G.reg fun K hK=>?_|(with_reducible (refine hK _ _ ?_);clear hK K)|(with_reducible (refine hK _ ?_);clear hK K;intro wd hxd;have hS:=Sep.xx hxd)|((first|have hk:=hK|have hk:=hK2);clear hk;simp (disch:=first|exact dis|fail) only [push_cast,↓reduceIte,zq1,zq2,zq3,zq4,zq5,fct])|((first|refine brO_n ?_ ?_|refine brQ_n ?_ ?_)<;>intro hb hc<;>first|(with_reducible exact False.elim hc)|(exfalso;omega)|(simp only [hb];clear hb))|((first|refine zalc ?_|refine zbsl ?_|((with_reducible refine gBox ?_);refine zbox ?_));intro gb wb hS)|((with_reducible refine gSt ?_);refine zs2 ?_;intro wb hS)|(refine zcp 39 (hkc _ hS.x (Sep.rd hS (by repeat constructor))) ?_;intro wb hS)|(refine zlk ?_)   | (refine zcp 23 (heq _ hS.x) ?_;intro wb hS)|(refine zdl ?_;intro wb hS)|(refine zse ?_;intro wb hS)|(refine G.drt mixed fun K hK wd hxd=>?_;have hS:=Sep.xx hxd)|with_reducible refine OT_leaf ?_|(with_reducible (refine hK2 _ ?_);clear hK2 K2;intro wd hxd;have hS:=Sep.xx hxd)|with_reducible refine OT_br fun K2 hK2=>?_|(refine hK2 _ _ ?_ ?_<;>clear hK2 K2)|refine G.drg mixed fun K hK=>?_|(refine G.cn ?_ ?_<;>intro hc<;>first|(with_reducible exact False.elim hc)|(exfalso;omega)|skip)))<;>(try clear fct)
              all_goals
                have fct:=(And.intro @q76 (And.intro @q75 (And.intro @q74 (And.intro @q2 (And.intro @q3 (And.intro @q6 (And.intro @q13 (And.intro @q14 (And.intro @q15 @q16)))))))));refine ih _ _ ⟨k2+1,lp,lr,lg,gm,g6,g3,_,ws,by omega,by exact sf,by exact sf,by exact sf,by exact sf,by exact sf,by exact sf,by exact sf,by exact sf,by exact sf,by exact sf,hns,hwl,hwr,by simp only [];omega,e,(Sep.sub hS (by repeat first|exact Sub.rfl'|exact Sub.nil0|(refine Sub.c (by repeat constructor) ?_)|refine Sub.skip ?_))⟩ ?_
                rw [hm];simp only [push_cast,↓reduceIte,zq1,zq2,zq3,zq4,zq5,toN_i,q76,q75,q74,q2,q3,q6,q13,q14,q15,q16];omega
            · rw [if_neg hk1'] at e hcok
              simp only [] at e
              have hns:=hcok _ rfl
              have hone:∀ z∈eV.f xn,One z:=fun z hz=>by rw [List.mem_singleton.1 hz];exact y3.one
              have hnw:=rows_set hwl (n:=n.toNat) (by omega) hwr y3 (by have:=(o5 hk1').1;omega)
              (have fct:=(And.intro @q76 (And.intro @q75 (And.intro @q74 (And.intro @q2 (And.intro @q3 (And.intro @q6 (And.intro @q13 (And.intro @q14 (And.intro @q15 (And.intro @q16 (And.intro @hx (And.intro @hk1' (And.intro @hk3 (And.intro @ha @hdq))))))))))))));repeat' (first|((with_reducible apply G.a);exact rfl)|refine G.reg fun K hK=>?_|(with_reducible (refine hK _ _ ?_);clear hK K)|(with_reducible (refine hK _ ?_);clear hK K;intro wd hxd;have hS:=Sep.xx hxd)|((first|have hk:=hK|have hk:=hK2);clear hk;simp (disch:=first|exact dis|fail) only [push_cast,↓reduceIte,zq1,zq2,zq3,zq4,zq5,fct])|((first|refine brO_n ?_ ?_|refine brQ_n ?_ ?_)<;>intro hb hc<;>first|(with_reducible exact False.elim hc)|(exfalso;omega)|(simp only [hb];clear hb))|((first|refine zalc ?_|refine zbsl ?_|((with_reducible refine gBox ?_);refine zbox ?_));intro gb wb hS)|((with_reducible refine gSt ?_);refine zs2 ?_;intro wb hS)|(refine zcp 39 (hkc _ hS.x (Sep.rd hS (by repeat constructor))) ?_;intro wb hS)|(refine zlk ?_)   | (refine zcp 23 (heq _ hS.x) ?_;intro wb hS)|(refine zse (y:=xn) ?_ (hx:=one_cells y3.one) (h1:=hone);intro wb hS)|(refine G.drt mixed fun K hK wd hxd=>?_;have hS:=Sep.xx hxd)|with_reducible refine OT_leaf ?_|(with_reducible (refine hK2 _ ?_);clear hK2 K2;intro wd hxd;have hS:=Sep.xx hxd)|with_reducible refine OT_br fun K2 hK2=>?_|(refine hK2 _ _ ?_ ?_<;>clear hK2 K2)|refine G.drg mixed fun K hK=>?_|(refine G.cn ?_ ?_<;>intro hc<;>first|(with_reducible exact False.elim hc)|(exfalso;omega)|skip)))<;>(try clear fct)
              all_goals
                have fct:=(And.intro @q76 (And.intro @q75 (And.intro @q74 (And.intro @q2 (And.intro @q3 (And.intro @q6 (And.intro @q13 (And.intro @q14 (And.intro @q15 @q16)))))))));refine ih _ _ ⟨k2+1,lp,lr,lg,gm,g6,g3,_,ws.set n.toNat xn,by omega,by exact sf,by exact sf,by exact sf,by exact sf,by exact sf,by exact sf,by exact sf,by exact sf,by exact sf,by exact sf,hns,by simp [hwl],hnw,by simp;omega,e,(Sep.sub hS (by repeat first|exact Sub.rfl'|exact Sub.nil0|(refine Sub.c (by repeat constructor) ?_)|refine Sub.skip ?_))⟩ ?_
                rw [hm];simp only [push_cast,↓reduceIte,zq1,zq2,zq3,zq4,zq5,toN_i,q76,q75,q74,q2,q3,q6,q13,q14,q15,q16];omega
          · rw [if_pos hq] at e
            simp only [] at e
            rw [e]
            have hdq:decide (s.rows.getD n.toNat []=c.old)=false:=decide_eq_false hq
            (have fct:=(And.intro @q76 (And.intro @q75 (And.intro @q74 (And.intro @q2 (And.intro @q3 (And.intro @q6 (And.intro @q13 (And.intro @q14 (And.intro @q15 (And.intro @q16 (And.intro @hx (And.intro @hk3 (And.intro @ha @hdq)))))))))))));repeat' (first|((with_reducible apply G.a);exact rfl)|refine G.reg fun K hK=>?_|(with_reducible (refine hK _ _ ?_);clear hK K)|(with_reducible (refine hK _ ?_);clear hK K;intro wd hxd;have hS:=Sep.xx hxd)|((first|have hk:=hK|have hk:=hK2);clear hk;simp (disch:=first|exact dis|fail) only [push_cast,↓reduceIte,zq1,zq2,zq3,zq4,zq5,fct])|((first|refine brO_n ?_ ?_|refine brQ_n ?_ ?_)<;>intro hb hc<;>first|(with_reducible exact False.elim hc)|(exfalso;omega)|(simp only [hb];clear hb))|((first|refine zalc ?_|refine zbsl ?_|((with_reducible refine gBox ?_);refine zbox ?_));intro gb wb hS)|((with_reducible refine gSt ?_);refine zs2 ?_;intro wb hS)|(refine zcp 39 (hkc _ hS.x (Sep.rd hS (by repeat constructor))) ?_;intro wb hS)|(refine zlk ?_)   | (refine zcp 23 (heq _ hS.x) ?_;intro wb hS)|(refine G.drt mixed fun K hK wd hxd=>?_;have hS:=Sep.xx hxd)|with_reducible refine OT_leaf ?_|(with_reducible (refine hK2 _ ?_);clear hK2 K2;intro wd hxd;have hS:=Sep.xx hxd)|with_reducible refine OT_br fun K2 hK2=>?_|(refine hK2 _ _ ?_ ?_<;>clear hK2 K2)|refine G.drg mixed fun K hK=>?_|(refine G.cn ?_ ?_<;>intro hc<;>first|(with_reducible exact False.elim hc)|(exfalso;omega)|skip)))<;>(try clear fct)
            all_goals
              (have fct:=(And.intro @q76 (And.intro @q75 (And.intro @q74 (And.intro @q2 (And.intro @q3 (And.intro @q6 (And.intro @q13 (And.intro @q14 (And.intro @q15 @q16)))))))));(first|refine G.r1 ?_|refine G.r2 ?_|refine G.r3 ?_|refine G.r0 ?_|refine G.d0 ?_);(try simp (disch:=first|exact dis|fail) only [push_cast,↓reduceIte,zq1,zq2,zq3,zq4,zq5,fct]);(try clear fct))
              exact ⟨by simp,rfl,Sep.xt (by assumption)⟩
    · rw [List.drop_eq_nil_of_le (by omega),cstsF] at e
      rw [e]
      clear ih e
      (have fct:=(And.intro @q76 (And.intro @q75 (And.intro @q74 (And.intro @q2 (And.intro @q3 (And.intro @q6 (And.intro @q13 (And.intro @q14 (And.intro @q15 @q16)))))))));repeat' (first|((with_reducible apply G.a);exact rfl)|refine G.reg fun K hK=>?_|(with_reducible (refine hK _ _ ?_);clear hK K)|(with_reducible (refine hK _ ?_);clear hK K;intro wd hxd;have hS:=Sep.xx hxd)|((first|have hk:=hK|have hk:=hK2);clear hk;simp (disch:=first|exact dis|fail) only [push_cast,↓reduceIte,zq1,zq2,zq3,zq4,zq5,fct])|((first|refine brO_n ?_ ?_|refine brQ_n ?_ ?_)<;>intro hb hc<;>first|(with_reducible exact False.elim hc)|(exfalso;omega)|(simp only [hb];clear hb))|((first|refine zalc ?_|refine zbsl ?_|((with_reducible refine gBox ?_);refine zbox ?_));intro gb wb hS)|((with_reducible refine gSt ?_);refine zs2 ?_;intro wb hS)|(refine G.drt mixed fun K hK wd hxd=>?_;have hS:=Sep.xx hxd)|with_reducible refine OT_leaf ?_|(with_reducible (refine hK2 _ ?_);clear hK2 K2;intro wd hxd;have hS:=Sep.xx hxd)|with_reducible refine OT_br fun K2 hK2=>?_|(refine hK2 _ _ ?_ ?_<;>clear hK2 K2)|refine G.drg mixed fun K hK=>?_|(refine G.cn ?_ ?_<;>intro hc<;>first|(with_reducible exact False.elim hc)|(exfalso;omega)|skip)))<;>(try clear fct)
      all_goals
        exact hTl s ws lp lr lg gm g6 g3 _ _ _ hs hwl hwr (by omega) (by simp only [push_cast,↓reduceIte,zq1,zq2,zq3,zq4,zq5,q76,q75,q74,q2,q3,q6,q13,q14,q15,q16]) (by simp only [push_cast,↓reduceIte,zq1,zq2,zq3,zq4,zq5,q76,q75,q74,q2,q3,q6,q13,q14,q15,q16]) (by simp only [push_cast,↓reduceIte,zq1,zq2,zq3,zq4,zq5,q76,q75,q74,q2,q3,q6,q13,q14,q15,q16]) (by simp only [push_cast,↓reduceIte,zq1,zq2,zq3,zq4,zq5,q76,q75,q74,q2,q3,q6,q13,q14,q15,q16]) (by simp only [push_cast,↓reduceIte,zq1,zq2,zq3,zq4,zq5,q76,q75,q74,q2,q3,q6,q13,q14,q15,q16]) hS
end Go.Proofs.YtjajihaeoolefaaGreatDoor
namespace Go.Proofs.YtjajihaeoolefaaGreatDoor
open Nat renaming reduceAdd→zq1,reduceLeDiff→zq2,reduceEqDiff→zq3,reduceLT→zq4
open Int renaming reduceToNat→zq5
set_option linter.unusedSimpArgs false
set_option linter.unusedVariables false
attribute [local irreducible] SemK UnitK StK AlcK BslK CallK CallV Instr.box Builtin.append_ Instr.makeSlice Instr.makeMap Instr.lookup Instr.mapUpdate Instr.sliceAt convert
open Go.RowKit
attribute [local irreducible] accC boxC mapC frzC
def applyC (T:MC):MC:=match c13 with
  | .seq a (.seq b (.seq c (.seq d (.seq e (.seq f (.seq g (.seq h _)))))))=>.seq a (.seq b (.seq c (.seq d (.seq e (.seq f (.seq g (.seq h T)))))))
  | _=>.skip
theorem applyC_eq:c13=applyC applyT2:=rfl
set_option maxHeartbeats 4000000 in
theorem apply_spec {vl vr vk vc:Value} {l:List Col} {rows:List (List Val)} {keys:List Str} {cs:List Chg} {w:World} (h0:Rd w eC vl l) (h2:RdT w eVal vr rows) (h1:Rd w eS vk keys) (hc:RdCs w vc cs) (hl:∀ c∈l,c.name.length≤100000000000) (hk1:keys.length≤1000)
    (hf:∀ i,i < rows.length→FineV (rows.getD i [])) (hfc:FineC cs) (hb1:rows.length≤1000000) (hb2:cs.length≤1000000) (hll:l.length≤1000000) (hT:Tab w) :
    Ret Tryz.prog 13 #[.agg #[vl,vr],vk,vc] w (ApR w l cs.length (applyM l rows keys cs)):=by
  refine in13 ?_
  rw [applyC_eq]
  have hS:=Sep.start w
  have hbd:=h0.bd
  have hdc:=fun (w2:World) (hx:Ext w w2)=>dchk_spec (w:=w2) (h0.ext hx) (h2.ext hx) (h1.ext hx) hl hk1 hf (hT.ext hx)
  have hpc:=fun (w2:World) (hx:Ext w w2)=>pchk_spec (w:=w2) (h0.ext hx) (h1.ext hx) (hc.ext hx) hl hk1 hfc (hT.ext hx)
  obtain ⟨vs,g1,l1,i1⟩:=h2
  have hbd2:=g1.bd
  obtain ⟨xs,c1,m1,j1⟩:=hc
  have hTl:=fun (s0:Stt) (vs:List Value) (ps:List Int) (lp lr lg:Value) (gm g6 g3:Nat) (n:Nat) (wl:World) (u:Fr)=>@apply_tail2 vl vr vc l cs s0 vs ps lp lr lg gm g6 g3 n cs.length w wl u h0 hll xs c1 m1 m1 j1 hfc hb2
  generalize applyT2=T2 at hTl ⊢
  unfold applyC c13
  dsimp only
  have hbd3:=c1.bd
  have hin:=dchk_iff l rows keys
  have hin2:=pchk_iff l keys cs
  have hne:=fun h=>dchk_ne (l:=l) (rows:=rows) (keys:=keys) h
  have hap:applyM l rows keys cs=if (dchkM l rows keys).2≠0 then .error (0,(dchkM l rows keys).2) else if (pchkM l keys cs).2≠0 then .error (pchkM l keys cs) else match cstsF (placesM l keys) cs 0 (sttM (placesM l keys) rows) with|.error x=>.error x|.ok s=>.ok (liveM s.rows s.gone):=rfl
  rw [hap]
  clear hap
  generalize dchkM l rows keys=dd at *
  generalize pchkM l keys cs=pp at *
  obtain ⟨d1,d2⟩:=dd
  obtain ⟨p1,p2⟩:=pp
  by_cases hd:d2=0
  rotate_left
  · rw [if_pos hd]
    repeat' (first|((with_reducible apply G.a);exact rfl)|refine G.reg fun K hK=>?_|(with_reducible (refine hK _ _ ?_);clear hK K)|(with_reducible (refine hK _ ?_);clear hK K;intro wd hxd;have hS:=Sep.xx hxd)|((first|have hk:=hK|have hk:=hK2);clear hk;simp (disch:=first|exact dis|fail) only [push_cast,↓reduceIte,zq1,zq2,zq3,zq4,zq5,fct])|((first|refine brO_n ?_ ?_|refine brQ_n ?_ ?_)<;>intro hb hc<;>first|(with_reducible exact False.elim hc)|(exfalso;omega)|(simp only [hb];clear hb))|((first|refine zalc ?_|refine zbsl ?_|((with_reducible refine gBox ?_);refine zbox ?_));intro gb wb hS)|((with_reducible refine gSt ?_);refine zs2 ?_;intro wb hS)|(refine zcp 19 (hdc _ hS.x) ?_;intro wb hS)|(refine G.drt mixed fun K hK wd hxd=>?_;have hS:=Sep.xx hxd)|with_reducible refine OT_leaf ?_|(with_reducible (refine hK2 _ ?_);clear hK2 K2;intro wd hxd;have hS:=Sep.xx hxd)|with_reducible refine OT_br fun K2 hK2=>?_|(refine hK2 _ _ ?_ ?_<;>clear hK2 K2)|refine G.drg mixed fun K hK=>?_|(refine G.cn ?_ ?_<;>intro hc<;>first|(with_reducible exact False.elim hc)|(exfalso;omega)|skip))
    all_goals
      (first|refine G.r1 ?_|refine G.r2 ?_|refine G.r3 ?_|refine G.r0 ?_|refine G.d0 ?_);(try simp (disch:=first|exact dis|fail) only [push_cast,↓reduceIte,zq1,zq2,zq3,zq4,zq5,fct])
      exact ⟨hd,rfl,Sep.xt (by assumption)⟩
  subst hd
  rw [if_neg (by simp)]
  by_cases hp:p2=0
  rotate_left
  · rw [if_pos hp]
    repeat' (first|((with_reducible apply G.a);exact rfl)|refine G.reg fun K hK=>?_|(with_reducible (refine hK _ _ ?_);clear hK K)|(with_reducible (refine hK _ ?_);clear hK K;intro wd hxd;have hS:=Sep.xx hxd)|((first|have hk:=hK|have hk:=hK2);clear hk;simp (disch:=first|exact dis|fail) only [push_cast,↓reduceIte,zq1,zq2,zq3,zq4,zq5,fct])|((first|refine brO_n ?_ ?_|refine brQ_n ?_ ?_)<;>intro hb hc<;>first|(with_reducible exact False.elim hc)|(exfalso;omega)|(simp only [hb];clear hb))|((first|refine zalc ?_|refine zbsl ?_|((with_reducible refine gBox ?_);refine zbox ?_));intro gb wb hS)|((with_reducible refine gSt ?_);refine zs2 ?_;intro wb hS)|(refine zcp 19 (hdc _ hS.x) ?_;intro wb hS)|(refine zcp 35 (hpc _ hS.x) ?_;intro wb hS)|(refine G.drt mixed fun K hK wd hxd=>?_;have hS:=Sep.xx hxd)|with_reducible refine OT_leaf ?_|(with_reducible (refine hK2 _ ?_);clear hK2 K2;intro wd hxd;have hS:=Sep.xx hxd)|with_reducible refine OT_br fun K2 hK2=>?_|(refine hK2 _ _ ?_ ?_<;>clear hK2 K2)|refine G.drg mixed fun K hK=>?_|(refine G.cn ?_ ?_<;>intro hc<;>first|(with_reducible exact False.elim hc)|(exfalso;omega)|skip))
    all_goals
      (first|refine G.r1 ?_|refine G.r2 ?_|refine G.r3 ?_|refine G.r0 ?_|refine G.d0 ?_);(try simp (disch:=first|exact dis|fail) only [push_cast,↓reduceIte,zq1,zq2,zq3,zq4,zq5,fct])
      exact ⟨hp,rfl,Sep.xt (by assumption)⟩
  subst hp
  rw [if_neg (by simp)]
  obtain ⟨ko,ro⟩:=hin.1 rfl
  obtain ⟨_,oo⟩:=hin2.1 rfl
  have hfp:=plc_fine (keys:=keys) (hne rfl) hk1
  clear hin hin2 hne
  have hft:=fun (w2:World) (hx:Ext w w2)=>cloneT_spec (w:=w2) (g1.ext hx) (by omega)
  repeat' (first|((with_reducible apply G.a);exact rfl)|refine G.reg fun K hK=>?_|(with_reducible (refine hK _ _ ?_);clear hK K)|(with_reducible (refine hK _ ?_);clear hK K;intro wd hxd;have hS:=Sep.xx hxd)|((first|have hk:=hK|have hk:=hK2);clear hk;simp (disch:=first|exact dis|fail) only [push_cast,↓reduceIte,zq1,zq2,zq3,zq4,zq5,fct])|((first|refine brO_n ?_ ?_|refine brQ_n ?_ ?_)<;>intro hb hc<;>first|(with_reducible exact False.elim hc)|(exfalso;omega)|(simp only [hb];clear hb))|((first|refine zalc ?_|refine zbsl ?_|((with_reducible refine gBox ?_);refine zbox ?_));intro gb wb hS)|((with_reducible refine gSt ?_);refine zs2 ?_;intro wb hS)|(refine zcp 19 (hdc _ hS.x) ?_;intro wb hS)|(refine zcp 35 (hpc _ hS.x) ?_;intro wb hS)|(refine zco 36 (pfind_spec (h0.ext hS.x) (h1.ext hS.x) hk1) ?_;rintro vb wb hS2;have hS:=hS2.ap;simp only [apps] at hS)|(refine zco 37 (hft _ hS.x) ?_;rintro vb wb hS2;have hS:=hS2.ap;simp only [apps] at hS)|(refine zmk eB false ?_;intro vb wb hS)|(refine zmm I ?_;intro gb wb hS)|(refine G.drt mixed fun K hK wd hxd=>?_;have hS:=Sep.xx hxd)|with_reducible refine OT_leaf ?_|(with_reducible (refine hK2 _ ?_);clear hK2 K2;intro wd hxd;have hS:=Sep.xx hxd)|with_reducible refine OT_br fun K2 hK2=>?_|(refine hK2 _ _ ?_ ?_<;>clear hK2 K2)|refine G.drg mixed fun K hK=>?_|(refine G.cn ?_ ?_<;>intro hc<;>first|(with_reducible exact False.elim hc)|(exfalso;omega)|skip))
  all_goals
  have hrep:(((vs.length:Nat):Int)).toNat=rows.length:=by omega
  rw [hrep] at hS
  generalize hps:placesM l keys=ps at *
  refine G.loop (fun r w'=>∃ (k:Nat) (lp lr lg:Value) (gm g6 g3:Nat) (m:Str→Option Int),k≤vs.length∧r 63=I k∧r 62=I vs.length∧r 61=lr∧r 2=vc∧r 3=.pointer (some ⟨g3,0,none⟩)∧r 6=.pointer (some ⟨g6,0,none⟩)∧r 13=lp∧r 14=lr∧r 15=lg∧r 16=.map (some gm) ∧
      atsF ps rows 0 (fun _=>none)=atsF ps (rows.drop k) k m ∧
      Sep w w' [mapC gm I m,accC lp 3 eI ps,accC lr 79 eV vs,accC lg 4 eB (List.replicate rows.length false),boxC g6 27 [.slice none 0 0,.slice none 0 0],boxC g3 27 [vl,vr]]) (fun r _=>vs.length - toN (r 63)) ?_ ?_
  · exact ⟨0,_,_,_,_,_,_,fun _=>none,Nat.zero_le _,by exact sf,by exact sf,by exact sf,by exact sf,by exact sf,by exact sf,by exact sf,by exact sf,by exact sf,by exact sf,rfl,(Sep.sub hS (by repeat first|exact Sub.rfl'|exact Sub.nil0|(refine Sub.c (by repeat constructor) ?_)|refine Sub.skip ?_))⟩
  · clear hS
    rintro u wl ⟨k,lp,lr,lg,gm,g6,g3,m,hk,q63,q62,q61,q2,q3,q6,q13,q14,q15,q16,e,hS⟩ ih
    have hm:toN (u 63)=k:=by rw [q63];simp [toN]
    by_cases hlt:(k:Int) < vs.length
    · rw [atsF_step ps rows k m (by omega)] at e
      have hrk:=i1 k (by omega)
      have hwk:=ro.w (rows.getD k []) (getD_mem rows k (by omega))
      have hfk:=hf k (by omega)
      generalize rows.getD k []=rk at e hrk hwk hfk
      have hmk:=fun (w2:World) (hx:Ext w w2) (hp:Rd w2 eI lp ps)=>markw_spec (w:=w2) (hrk.ext hx) hp hfk ⟨hfp.1,fun p hp=>by have:=hfp.2 p hp;omega⟩ (hT.ext hx)
      generalize markM tailW rk ps=mk at e hmk
      (have fct:=(And.intro @q63 (And.intro @q62 (And.intro @q61 (And.intro @q2 (And.intro @q3 (And.intro @q6 (And.intro @q13 (And.intro @q14 (And.intro @q15 @q16)))))))));repeat' (first|((with_reducible apply G.a);exact rfl)|refine G.reg fun K hK=>?_|(with_reducible (refine hK _ _ ?_);clear hK K)|(with_reducible (refine hK _ ?_);clear hK K;intro wd hxd;have hS:=Sep.xx hxd)|((first|have hk:=hK|have hk:=hK2);clear hk;simp (disch:=first|exact dis|fail) only [push_cast,↓reduceIte,zq1,zq2,zq3,zq4,zq5,fct])|((first|refine brO_n ?_ ?_|refine brQ_n ?_ ?_)<;>intro hb hc<;>first|(with_reducible exact False.elim hc)|(exfalso;omega)|(simp only [hb];clear hb))|((first|refine zalc ?_|refine zbsl ?_|((with_reducible refine gBox ?_);refine zbox ?_));intro gb wb hS)|((with_reducible refine gSt ?_);refine zs2 ?_;intro wb hS)|(refine zcp 38 (hmk _ hS.x (Sep.rd hS (by repeat constructor))) ?_;intro wb hS)|(refine zmu ?_;intro wb hS)|(refine G.drt mixed fun K hK wd hxd=>?_;have hS:=Sep.xx hxd)|with_reducible refine OT_leaf ?_|(with_reducible (refine hK2 _ ?_);clear hK2 K2;intro wd hxd;have hS:=Sep.xx hxd)|with_reducible refine OT_br fun K2 hK2=>?_|(refine hK2 _ _ ?_ ?_<;>clear hK2 K2)|refine G.drg mixed fun K hK=>?_|(refine G.cn ?_ ?_<;>intro hc<;>first|(with_reducible exact False.elim hc)|(exfalso;omega)|skip)))<;>(try clear fct)
      all_goals
        have fct:=(And.intro @q63 (And.intro @q62 (And.intro @q61 (And.intro @q2 (And.intro @q3 (And.intro @q6 (And.intro @q13 (And.intro @q14 (And.intro @q15 @q16)))))))));refine ih _ _ ⟨k+1,lp,lr,lg,gm,g6,g3,_,by omega,by exact sf,by exact sf,by exact sf,by exact sf,by exact sf,by exact sf,by exact sf,by exact sf,by exact sf,by exact sf,e,(Sep.sub hS (by repeat first|exact Sub.rfl'|exact Sub.nil0|(refine Sub.c (by repeat constructor) ?_)|refine Sub.skip ?_))⟩ ?_
        rw [hm];simp only [push_cast,↓reduceIte,zq1,zq2,zq3,zq4,zq5,toN_i,q63,q62,q61,q2,q3,q6,q13,q14,q15,q16];omega
    · rw [List.drop_eq_nil_of_le (by omega),atsF] at e
      rw [←e] at hS
      clear ih e
      have hs0:SttOk ps (sttM ps rows):=stt_ok ro.d
      have hsr:(sttM ps rows).rows=rows:=rfl
      have hsa:(sttM ps rows).at_=atsF ps rows 0 fun _=>none:=rfl
      have hsg:(sttM ps rows).gone=List.replicate rows.length false:=rfl
      rw [←hsa,←hsg] at hS
      (have fct:=(And.intro @q63 (And.intro @q62 (And.intro @q61 (And.intro @q2 (And.intro @q3 (And.intro @q6 (And.intro @q13 (And.intro @q14 (And.intro @q15 @q16)))))))));repeat' (first|((with_reducible apply G.a);exact rfl)|refine G.reg fun K hK=>?_|(with_reducible (refine hK _ _ ?_);clear hK K)|(with_reducible (refine hK _ ?_);clear hK K;intro wd hxd;have hS:=Sep.xx hxd)|((first|have hk:=hK|have hk:=hK2);clear hk;simp (disch:=first|exact dis|fail) only [push_cast,↓reduceIte,zq1,zq2,zq3,zq4,zq5,fct])|((first|refine brO_n ?_ ?_|refine brQ_n ?_ ?_)<;>intro hb hc<;>first|(with_reducible exact False.elim hc)|(exfalso;omega)|(simp only [hb];clear hb))|((first|refine zalc ?_|refine zbsl ?_|((with_reducible refine gBox ?_);refine zbox ?_));intro gb wb hS)|((with_reducible refine gSt ?_);refine zs2 ?_;intro wb hS)|(refine G.drt mixed fun K hK wd hxd=>?_;have hS:=Sep.xx hxd)|with_reducible refine OT_leaf ?_|(with_reducible (refine hK2 _ ?_);clear hK2 K2;intro wd hxd;have hS:=Sep.xx hxd)|with_reducible refine OT_br fun K2 hK2=>?_|(refine hK2 _ _ ?_ ?_<;>clear hK2 K2)|refine G.drg mixed fun K hK=>?_|(refine G.cn ?_ ?_<;>intro hc<;>first|(with_reducible exact False.elim hc)|(exfalso;omega)|skip)))<;>(try clear fct)
      all_goals
        exact hTl (sttM ps rows) vs ps lp lr lg gm g6 g3 _ _ _ hfp hT oo hs0 (by rw [hsr,l1]) (fun i hi=>⟨by rw [hsr];exact i1 i (by omega),by rw [hsr];have:=(ro.w (rows.getD i []) (getD_mem rows i (by omega))).1;omega⟩) (by rw [hsr];omega) (by simp only [push_cast,↓reduceIte,zq1,zq2,zq3,zq4,zq5,q63,q62,q61,q2,q3,q6,q13,q14,q15,q16]) (by simp only [push_cast,↓reduceIte,zq1,zq2,zq3,zq4,zq5,q63,q62,q61,q2,q3,q6,q13,q14,q15,q16]) (by simp only [push_cast,↓reduceIte,zq1,zq2,zq3,zq4,zq5,q63,q62,q61,q2,q3,q6,q13,q14,q15,q16]) (by simp only [push_cast,↓reduceIte,zq1,zq2,zq3,zq4,zq5,q63,q62,q61,q2,q3,q6,q13,q14,q15,q16]) (by simp only [push_cast,↓reduceIte,zq1,zq2,zq3,zq4,zq5,q63,q62,q61,q2,q3,q6,q13,q14,q15,q16]) (by simp only [push_cast,↓reduceIte,zq1,zq2,zq3,zq4,zq5,q63,q62,q61,q2,q3,q6,q13,q14,q15,q16]) (by simp only [push_cast,↓reduceIte,zq1,zq2,zq3,zq4,zq5,q63,q62,q61,q2,q3,q6,q13,q14,q15,q16]) (Sep.sub hS (by repeat first|exact Sub.rfl'|exact Sub.nil0|(refine Sub.c (by repeat constructor) ?_)|refine Sub.skip ?_))
end Go.Proofs.YtjajihaeoolefaaGreatDoor
