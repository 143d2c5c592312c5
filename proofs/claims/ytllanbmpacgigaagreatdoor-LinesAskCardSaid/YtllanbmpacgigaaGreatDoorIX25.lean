/- Texts of the proof, joined. -/
import Derived.Test.YtllanbmpacgigaaGreatDoorIW25
import Derived.Test.YtllanbmpacgigaaGreatDoorICt
namespace Go.Proofs.YtllanbmpacgigaaGreatDoor
open Operand renaming tmp→Y,const→yc
open MC renaming seq→Z,reg→yr,skip→yk,cond→yd
open MO renaming call→yl,bin→yb
open Nat renaming reduceAdd→zq1,reduceLeDiff→zq2,reduceEqDiff→zq3,reduceLT→zq4
open Int renaming reduceToNat→zq5
set_option linter.unusedSimpArgs false
set_option linter.unusedVariables false
attribute [local irreducible] SemK UnitK StK AlcK BslK CallK CallV Instr.box Builtin.append_ Instr.makeSlice Instr.makeMap Instr.lookup Instr.mapUpdate Instr.sliceAt convert
open Go.RowKit
def idxI (x:Int):List Int→Int→Int
 | [],_=>-1
 | y :: r,i=>if x=y then i else idxI x r (i+1)
theorem idxI_mem (x:Int):∀ (l:List Int) (i:Int),0≤i→(0≤idxI x l i↔x∈l)
 | [],i,_=>by simp [idxI]
 | y :: r,i,h=>by
   rw [idxI]
   by_cases e:x=y
   ·rw [if_pos e];simp [e,h]
   ·rw [if_neg e,idxI_mem x r (i+1) zo];simp [e]
def c183l1:MC:=(Z (yr [qq 9 (yb .lss (Y 8) (Y 7))]) (Z (yd (Y 9) yk (.exit 0)) (Z (.blk 1 (Z (yr [qm 10 8,qm 5 10]) (Z (yr [qm 11 1,qm 12 0,qm 13 5,qq 14 (.adr 1 (Y 12) (Y 13)),qq 15 (.ld none (Y 14)),qq 16 (yb .eql (Y 11) (Y 15))]) (yd (Y 16) (Z (yr [qm 17 5,qm 4 17]) .ret) yk)))) (yr [qq 18 (yb .add (Y 8) (ki 1)),qm 8 18]))))
def c183:MC:=(.seq (.reg [qq 4 (.mv (ki 0))]) (.seq (.seq (.reg [qm 6 0,qq 7 (.len (.tmp 6)),qq 8 (.mv (ki 0))]) (.blk 0 (.loop c183l1))) (.seq (.reg [qq 4 (.mv (ki (-1)))]) .ret)))
theorem sidx_spec {v:Value} {l:List Int} {w:World} (x:Int) (hr:Rd w eI v l):Pu Tryz.prog 183 #[v,I x] w (I (idxI x l 0)):=by
 refine En 19 c183 Tryz.func183 ?_
 have hS:=Sep.start w
 have hbd:=hr.bd
 repeat' (first|refine G.reg fun K hK=>?_|(refine kM ?_;clear hK K)|refine sA ?_|(refine G.cn ?_ ?_<;>intro hc<;>try exact zxf))
 refine G.loop (fun r w'=>∃ k:Nat,k≤l.length∧r 8=I k∧r 7=I l.length∧r 0=v∧r 1=I x∧idxI x l 0=idxI x (l.drop k) k∧Sep w w' []) (fun r _=>l.length - toN (r 8)) ?_ ?_
 ·exact ⟨0,Nat.zero_le _,by exact sf,by exact sf,by exact sf,by exact sf,rfl,hS⟩
 ·clear hS
  rintro u wl ⟨k,hk,q8,q7,q0,q1,e,hS⟩ ih
  by_cases hlt:(k:Int) < l.length
  ·rw [dropD _ _ hlt,idxI] at e
   (have fct:=(a4 @q8 @q7 @q0 @q1);repeat' (first|refine G.reg fun K hK=>?_|(refine kM ?_;clear hK K)|refine sA ?_|(refine G.cn ?_ ?_<;>intro hc<;>try exact zxf)))<;>(try clear fct)
   ·(have fct:=(a4 @q8 @q7 @q0 @q1);refine rM ?_)
    rw [if_pos ‹_›] at e
    rw [e]
    (first|exact Sep.xt ‹_›|exact ⟨rfl,Sep.xt ‹_›⟩)
   ·rw [if_neg ‹_›] at e
    (refine ih _ _ ⟨k+1,?_⟩ ?_;rotate_left;(focus ((simp only [push_cast,↓reduceIte,zq1,zq2,zq3,zq4,zq5,toN_i,q8,q7,q0,q1]<;>omega)));((repeat' apply aI)<;>first|exact dj|(simp only [push_cast,↓reduceIte,zq1,zq2,zq3,zq4,zq5,q8,q7,q0,q1]<;>omega)|skip))
  ·(have fct:=(a4 @q8 @q7 @q0 @q1);repeat' (first|refine G.reg fun K hK=>?_|(refine kM ?_;clear hK K)|refine sA ?_|(refine G.cn ?_ ?_<;>intro hc<;>try exact zxf)))<;>(try clear fct)
   all_goals
    (have fct:=(a4 @q8 @q7 @q0 @q1);refine rM ?_)
    rw [List.drop_eq_nil_of_le zo,idxI] at e
    rw [e]
    (first|exact Sep.xt ‹_›|exact ⟨rfl,Sep.xt ‹_›⟩)
def c150:MC:=(Z (yr [qq 4 (.mv (kb false))]) (Z (yr [qm 5 0,qm 6 1,qq 7 (yl 183 [(Y 5),(Y 6)]),qq 8 (yb .geq (Y 7) (ki 0)),qm 4 8]) .ret))
theorem scon_spec {v:Value} {l:List Int} {w:World} (x:Int) (hr:Rd w eI v l):Pu Tryz.prog 150 #[v,I x] w (.bool (decide (x∈l))):=by
 refine En 9 c150 Tryz.func150 ?_
 have hS:=Sep.start w
 repeat' (first|refine G.reg fun K hK=>?_|(refine kM ?_;clear hK K)|refine sA ?_|(refine zcp 183 (sidx_spec x hr) ?_;intro wb hS))
 all_goals
  refine rM ?_
  have h:=idxI_mem x l 0 (Int.le_refl _)
  rw [decide_eq_decide.2 h]
  (first|exact Sep.xt ‹_›|exact ⟨rfl,Sep.xt ‹_›⟩)
theorem vcf (c:Col):vC c=.agg #[S c.name,I c.kind,.bool c.null]:=rfl
theorem fnd_plc (l:List Col) (k:Str):fndM l k=(if 0≤atM (l.map (·.name)) k then l.getD (atM (l.map (·.name)) k).toNat default else default,plcM l k,decide (0≤atM (l.map (·.name)) k)):=by
 unfold fndM plcM namesC
 by_cases h:0≤atM (l.map (·.name)) k
 ·simp [h]
 ·simp [h]
theorem plcM_lt (l:List Col) (k:Str) (h:0≤atM (l.map (·.name)) k):plcM l k=atM (l.map (·.name)) k∧0≤plcM l k∧plcM l k < l.length:=by
 have h2:=atM_lt (l.map (·.name)) k
 rw [List.length_map] at h2
 unfold plcM
 rw [if_pos h]
 omega
theorem nullM_step (r:List Val) (ps:List Int) (k:Nat) (h:(k:Int) < ps.length):nullM r (ps.take (k+1))=(nullM r (ps.take k) || decide ((r.getD (ps.getD k default).toNat default).kind=0)):=by
 unfold nullM
 rw [takeD ps k h,List.any_append]
 simp
theorem nullM_at (r:List Val) (ps:List Int) (k:Nat) (h:(k:Int) < ps.length) (e:(r.getD (ps.getD k default).toNat default).kind=0):nullM r ps=true:=by
 unfold nullM
 exact List.any_eq_true.2 ⟨_,getD_mem ps k h,by simpa using e⟩
def c109l1:MC:=(Z (yr [qq 35 (yb .lss (Y 34) (Y 33))]) (Z (yd (Y 35) yk (.exit 0)) (Z (.blk 1 (Z (yr [qm 36 34,qq 37 (.adr 1 (Y 32) (Y 34)),qq 38 (.ld none (Y 37)),qm 9 36,qm 10 38]) (Z (yr [qq 40 (.fad 0 (Y 2)),qq 41 (.ld none (Y 40)),qm 42 10,qq 43 (yl 77 [(Y 41),(Y 42)]),qm 39 43,qq 44 (.ext 0 (Y 39)),qq 45 (.ext 1 (Y 39)),qq 46 (.ext 2 (Y 39)),qq 11 (.alc 121 [(S []),(.int .i64 0),(.bool false)]),qn (.st 3 (Y 11) (Y 44)),qm 12 45,qm 13 46]) (Z (Z (yr [qm 47 13,qq 48 (.un .not (Y 47))]) (yd (Y 48) (Z (yr [qm 49 9,qm 4 49,qq 5 (.mv (ki 16))]) .ret) yk)) (Z (Z (yr [qm 50 8,qm 51 12,qq 52 (yl 150 [(Y 50),(Y 51)])]) (yd (Y 52) (Z (yr [qm 53 9,qm 4 53,qq 5 (.mv (ki 15))]) .ret) yk)) (yr [qm 54 8,qm 55 12,qq 56 (.bsl 3 [(.int .i64 0)] 1 [⟨0,⟨1,(Y 55)⟩⟩]),qq 57 (.raw (.call ⟨(.builtin .append),#[(Y 54),(Y 56)],#[168,168]⟩) 168),qm 8 57])))))) (yr [qq 58 (yb .add (Y 34) (ki 1)),qm 34 58]))))
def c109l2:MC:=(Z (yr [qq 78 (yb .lss (Y 77) (Y 76))]) (Z (yd (Y 78) yk (.exit 4)) (Z (.blk 5 (Z (yr [qq 79 (.adr 1 (Y 75) (Y 77)),qq 80 (.ld none (Y 79)),qm 18 80]) (Z (yr [qm 81 16,qm 82 18,qq 83 (.adr 4 (Y 81) (Y 82)),qq 84 (.fad 0 (Y 83)),qq 85 (.ld none (Y 84)),qq 86 (yb .eql (Y 85) (ki 0))]) (yd (Y 86) (Z (yr [qm 87 15,qm 4 87,qq 5 (.mv (ki 20))]) .ret) yk)))) (yr [qq 88 (yb .add (Y 77) (ki 1)),qm 77 88]))))
def c109l3:MC:=(Z (yr [qq 64 (yb .lss (Y 63) (Y 62))]) (Z (yd (Y 64) yk (.exit 2)) (Z (.blk 3 (Z (yr [qm 65 63,qq 66 (.adr 1 (Y 61) (Y 63)),qq 67 (.ld none (Y 66)),qm 15 65,qm 16 67]) (Z (Z (yr [qm 68 16,qq 69 (.len (Y 68)),qq 70 (.fad 0 (Y 2)),qq 71 (.ld none (Y 70)),qq 72 (.len (Y 71)),qq 73 (yb .neq (Y 69) (Y 72))]) (yd (Y 73) (Z (yr [qm 74 15,qm 4 74,qq 5 (.mv (ki 10))]) .ret) yk)) (Z (Z (yr [qm 75 8,qq 76 (.len (Y 75)),qq 77 (.mv (ki 0))]) (.blk 4 (.loop c109l2))) (Z (yr [qm 89 16,qm 90 8,qq 91 (yl 110 [(Y 89),(Y 90)]),qm 19 91]) (Z (Z (yr [qm 92 14,qm 93 19,qq 94 (.raw (.lookup 149 (Y 92) (Y 93) false) 4)]) (yd (Y 94) (Z (yr [qm 95 15,qm 4 95,qq 5 (.mv (ki 15))]) .ret) yk)) (yr [qm 96 14,qm 97 19,qn (.raw (.mapUpdate 149 (Y 96) (Y 97) (kb true)) 0)]))))))) (yr [qq 98 (yb .add (Y 63) (ki 1)),qm 63 98]))))
def c109:MC:=(Z (yr [qq 2 (.raw (.box 119 (Y 0)) 0),qq 4 (.mv (ki 0)),qq 5 (.mv (ki 0))]) (Z (Z (yr [qq 21 (.fad 0 (Y 2)),qq 22 (.ld none (Y 21)),qq 23 (yl 96 [(Y 22)]),qm 20 23,qq 24 (.ext 0 (Y 20)),qq 25 (.ext 1 (Y 20)),qm 6 24,qm 7 25]) (Z (yr [qm 26 7,qq 27 (yb .neq (Y 26) (ki 0))]) (yd (Y 27) (Z (yr [qm 28 7,qq 4 (.mv (ki 0)),qm 5 28]) .ret) yk))) (Z (Z (yr [qm 29 1,qq 30 (.len (Y 29)),qq 31 (yb .eql (Y 30) (ki 0))]) (yd (Y 31) (Z (yr [qq 4 (.mv (ki 0)),qq 5 (.mv (ki 13))]) .ret) yk)) (Z (yr [qq 8 (.mv (yc (.slice none 0 0)))]) (Z (Z (yr [qm 32 1,qq 33 (.len (Y 32)),qq 34 (.mv (ki 0))]) (.blk 0 (.loop c109l1))) (Z (yr [qq 59 (.raw (.makeMap 149 none) 149),qm 14 59]) (Z (Z (yr [qq 60 (.fad 1 (Y 2)),qq 61 (.ld none (Y 60)),qq 62 (.len (Y 61)),qq 63 (.mv (ki 0))]) (.blk 2 (.loop c109l3))) (Z (yr [qq 99 (.fad 1 (Y 2)),qq 100 (.ld none (Y 99)),qq 101 (.len (Y 100)),qm 4 101,qq 5 (.mv (ki 0))]) .ret))))))))
set_option maxHeartbeats 1000000 in
theorem dchk_spec {vl vr vk:Value} {l:List Col} {rows:List (List Val)} {keys:List Str} {w:World} (h0:Rd w eC vl l) (h2:RdT w eVal vr rows) (h1:Rd w eS vk keys) (hl:∀ c∈l,c.name.length≤100000000000) (hk1:keys.length≤1000)
 (hf:∀ i,i < rows.length→FineV (rows.getD i [])) (hT:Tab w):Pu Tryz.prog 109 #[.agg #[vl,vr],vk] w (.tuple #[I (dchkM l rows keys).1,I (dchkM l rows keys).2]):=by
 refine En 102 c109 Tryz.func109 ?_
 have hS:=Sep.start w
 have hbd:=h0.bd
 have hbd1:=h1.bd
 obtain ⟨vs,g1,l1,i1⟩:=h2
 have hbd2:=g1.bd
 by_cases hE:(checkM (l.map nkC)).2=0
 rotate_left
 ·have hD:dchkM l rows keys=(0,(checkM (l.map nkC)).2):=by unfold dchkM;rw [if_pos hE]
  rw [hD]
  repeat' (first|refine G.reg fun K hK=>?_|(refine kM ?_;clear hK K)|refine sA ?_|((first|refine zalc ?_|refine zbsl ?_|((with_reducible refine gBox ?_);refine zbox ?_));intro gb wb hS)|((with_reducible refine gSt ?_);refine zs2 ?_;intro wb hS)|(refine zcp 96 (check_spec (h0.ext hS.x) hl) ?_;intro wb hS)|(refine G.cn ?_ ?_<;>intro hc<;>try exact zxf))
  all_goals
   refine rM ?_
   (first|exact Sep.xt ‹_›|exact ⟨rfl,Sep.xt ‹_›⟩)
 by_cases hK:(keys.length:Int)=0
 ·have hD:dchkM l rows keys=(0,13):=by unfold dchkM;rw [if_neg (not_not_intro hE),if_pos zo]
  rw [hD]
  (have fct:=(aI @hE @hK);repeat' (first|refine G.reg fun K hK=>?_|(refine kM ?_;clear hK K)|refine sA ?_|((first|refine zalc ?_|refine zbsl ?_|((with_reducible refine gBox ?_);refine zbox ?_));intro gb wb hS)|((with_reducible refine gSt ?_);refine zs2 ?_;intro wb hS)|(refine zcp 96 (check_spec (h0.ext hS.x) hl) ?_;intro wb hS)|(refine G.cn ?_ ?_<;>intro hc<;>try exact zxf)))<;>(try clear fct)
  all_goals
   refine rM ?_
   (first|exact Sep.xt ‹_›|exact ⟨rfl,Sep.xt ‹_›⟩)
 have hD:dchkM l rows keys=orE (keysF (l.map (·.name)) keys [] 0) (orE (rowsF l.length (placesM l keys) rows [] 0) (rows.length,0)):=by unfold dchkM;rw [if_neg (not_not_intro hE),if_neg zo]
 rw [hD]
 (have fct:=@hE;repeat' (first|refine G.reg fun K hK=>?_|(refine kM ?_;clear hK K)|refine sA ?_|((first|refine zalc ?_|refine zbsl ?_|((with_reducible refine gBox ?_);refine zbox ?_));intro gb wb hS)|((with_reducible refine gSt ?_);refine zs2 ?_;intro wb hS)|(refine zcp 96 (check_spec (h0.ext hS.x) hl) ?_;intro wb hS)|(refine G.cn ?_ ?_<;>intro hc<;>try exact zxf)))<;>(try clear fct)
 all_goals
 have hS:=hS.nil 3 eI
 generalize gb=gt at *
 refine G.loop (fun r w'=>∃ (k:Nat) (lv:Value) (ps:List Int),k≤keys.length∧r 34=I k∧r 33=I keys.length∧r 32=vk∧r 2=.pointer (some ⟨gt,0,none⟩)∧r 8=lv∧keysF (l.map (·.name)) keys [] 0=keysF (l.map (·.name)) (keys.drop k) ps k ∧
  ps=placesM l (keys.take k)∧ps.length=k∧(∀ p∈ps,0≤p∧p < l.length)∧Sep w w' [accC lv 3 eI ps,boxC gt 119 [vl,vr]]) (fun r _=>keys.length - toN (r 34)) ?_ ?_
 ·exact ⟨0,.slice none 0 0,[],Nat.zero_le _,by exact sf,by exact sf,by exact sf,by exact sf,by exact sf,rfl,rfl,rfl,by simp,(Sep.sub hS zu)⟩
 ·clear hS
  rintro u wl ⟨k,lv,ps,hk,q34,q33,q32,q2,q8,e,hps,hpl,hpb,hS⟩ ih
  have hm:toN (u 34)=k:=by rw [q34];simp [toN]
  by_cases hlt:(k:Int) < keys.length
  ·rw [dropD _ _ hlt,keysF] at e
   have hst:placesM l (keys.take (k+1))=placesM l (keys.take k)++[plcM l (keys.getD k default)]:=by unfold placesM;rw [takeD keys k hlt,List.map_append];rfl
   have hfd:=fnd_plc l (keys.getD k default)
   have hpc:=plcM_lt l (keys.getD k default)
   generalize (if 0≤atM (l.map (·.name)) (keys.getD k default) then l.getD (atM (l.map (·.name)) (keys.getD k default)).toNat default else default)=cx at hfd
   generalize hkk:keys.getD k default=key at *
   by_cases ha:0≤atM (l.map (·.name)) key
   ·obtain ⟨p0,p1,p2⟩:=hpc ha
    rw [←p0] at e
    have hdt:decide (0≤atM (l.map (·.name)) key)=true:=decide_eq_true ha
    rw [hdt] at hfd
    rw [if_neg zo] at e
    by_cases hin:plcM l key∈ps
    ·have hdi:decide (plcM l key∈ps)=true:=decide_eq_true hin
     rw [if_pos hin] at e
     rw [e]
     (have fct:=(a9 @q34 @q33 @q32 @q2 @q8 @hkk @hfd @vcf @hdi);repeat' (first|refine G.reg fun K hK=>?_|(refine kM ?_;clear hK K)|refine sA ?_|((first|refine zalc ?_|refine zbsl ?_|((with_reducible refine gBox ?_);refine zbox ?_));intro gb wb hS)|((with_reducible refine gSt ?_);refine zs2 ?_;intro wb hS)|(refine zcp 77 (find_spec (h0.ext hS.x) _) ?_;intro wb hS)|(refine zcp 150 (scon_spec _ (Sep.rd hS zr)) ?_;intro wb hS)|(refine G.cn ?_ ?_<;>intro hc<;>try exact zxf)))<;>(try clear fct)
     all_goals
      (have fct:=(a5 @q34 @q33 @q32 @q2 @q8);refine rM ?_)
      (first|exact Sep.xt ‹_›|exact ⟨rfl,Sep.xt ‹_›⟩)
    ·have hdi:decide (plcM l key∈ps)=false:=decide_eq_false hin
     rw [if_neg hin] at e
     (have fct:=(a9 @q34 @q33 @q32 @q2 @q8 @hkk @hfd @vcf @hdi);repeat' (first|refine G.reg fun K hK=>?_|(refine kM ?_;clear hK K)|refine sA ?_|((first|refine zalc ?_|refine zbsl ?_|((with_reducible refine gBox ?_);refine zbox ?_));intro gb wb hS)|((with_reducible refine gSt ?_);refine zs2 ?_;intro wb hS)|(refine zcp 77 (find_spec (h0.ext hS.x) _) ?_;intro wb hS)|(refine zcp 150 (scon_spec _ (Sep.rd hS zr)) ?_;intro wb hS)|(refine zap ?_;intro vb wb hS)|(refine G.cn ?_ ?_<;>intro hc<;>try exact zxf)))<;>(try clear fct)
     all_goals
      have fct:=(a5 @q34 @q33 @q32 @q2 @q8);refine ih _ _ ⟨k+1,vb,ps++[plcM l key],by omega,by exact sf,by exact sf,by exact sf,by exact sf,by exact sf,e,by rw [hst,hps],by rw [List.length_append];simp [hpl],?_,(Sep.sub hS zu)⟩ ?_
      ·intro p hp
       rcases List.mem_append.1 hp with hp|hp
       ·exact hpb p hp
       ·rw [List.mem_singleton] at hp;rw [hp];exact ⟨p1,p2⟩
      ·rw [hm];simp only [push_cast,↓reduceIte,zq1,zq2,zq3,zq4,zq5,toN_i,q34,q33,q32,q2,q8];omega
   ·have hdt:decide (0≤atM (l.map (·.name)) key)=false:=decide_eq_false ha
    rw [hdt] at hfd
    rw [if_pos zo] at e
    rw [e]
    (have fct:=(a8 @q34 @q33 @q32 @q2 @q8 @hkk @hfd @vcf);repeat' (first|refine G.reg fun K hK=>?_|(refine kM ?_;clear hK K)|refine sA ?_|((first|refine zalc ?_|refine zbsl ?_|((with_reducible refine gBox ?_);refine zbox ?_));intro gb wb hS)|((with_reducible refine gSt ?_);refine zs2 ?_;intro wb hS)|(refine zcp 77 (find_spec (h0.ext hS.x) _) ?_;intro wb hS)|(refine G.cn ?_ ?_<;>intro hc<;>try exact zxf)))<;>(try clear fct)
    all_goals
     (have fct:=(a5 @q34 @q33 @q32 @q2 @q8);refine rM ?_)
     (first|exact Sep.xt ‹_›|exact ⟨rfl,Sep.xt ‹_›⟩)
  ·have hkk : k = keys.length:=by omega
   rw [List.drop_eq_nil_of_le zo,keysF] at e
   rw [List.take_of_length_le zo] at hps
   rw [e,←hps]
   clear ih
   (have fct:=(a5 @q34 @q33 @q32 @q2 @q8);repeat' (first|refine G.reg fun K hK=>?_|(refine kM ?_;clear hK K)|refine sA ?_|((first|refine zalc ?_|refine zbsl ?_|((with_reducible refine gBox ?_);refine zbox ?_));intro gb wb hS)|((with_reducible refine gSt ?_);refine zs2 ?_;intro wb hS)|(refine zmm Value.bool ?_;intro gb wb hS)|(refine G.cn ?_ ?_<;>intro hc<;>try exact zxf)))<;>(try clear fct)
   all_goals
   rw [←mbM_nil] at hS
   generalize gb=gm at *
   refine G.loop (fun r w'=>∃ (k:Nat) (ah:List Str),k≤vs.length∧r 63=I k∧r 62=I vs.length∧r 61=vr∧r 2=.pointer (some ⟨gt,0,none⟩)∧r 8=lv∧r 14=.map (some gm) ∧
    rowsF l.length ps rows [] 0=rowsF l.length ps (rows.drop k) ah k∧Sep w w' [accC lv 3 eI ps,boxC gt 119 [vl,vr],mapC gm Value.bool (mbM ah)]) (fun r _=>vs.length - toN (r 63)) ?_ ?_
   ·have fct:=(a5 @q34 @q33 @q32 @q2 @q8);exact ⟨0,[],Nat.zero_le _,by exact sf,by exact sf,by exact sf,by exact sf,by exact sf,by exact sf,rfl,(Sep.sub hS zu)⟩
   ·clear hS q34 q33 q32 q2 q8 hm
    rintro u2 wl2 ⟨k2,ah,hk2,q63,q62,q61,q2,q8,q14,e2,hS⟩ ih
    have hm:toN (u2 63)=k2:=by rw [q63];simp [toN]
    by_cases hlt2:(k2:Int) < vs.length
    ·have hkr : (k2:Int) < rows.length:=by omega
     rw [dropD _ _ hkr,rowsF] at e2
     have hrk:=i1 k2 zo
     have hfv:=hf k2 zo
     have hd:rows.getD k2 default=rows.getD k2 []:=rfl
     rw [hd] at e2
     generalize rows.getD k2 []=rk at e2 hrk hfv
     by_cases hw:(rk.length:Int)=l.length
     rotate_left
     ·rw [if_pos hw] at e2
      rw [e2]
      have h1k:=g1.ext hS.x
      have hrw:=hrk.ext hS.x
      have h0k:=h0.ext hS.x
      (have fct:=(a6 @q63 @q62 @q61 @q2 @q8 @q14);repeat' (first|refine G.reg fun K hK=>?_|(refine kM ?_;clear hK K)|refine sA ?_|((first|refine zalc ?_|refine zbsl ?_|((with_reducible refine gBox ?_);refine zbox ?_));intro gb wb hS)|((with_reducible refine gSt ?_);refine zs2 ?_;intro wb hS)|(refine G.cn ?_ ?_<;>intro hc<;>try exact zxf)))<;>(try clear fct)
      all_goals
       (have fct:=(a6 @q63 @q62 @q61 @q2 @q8 @q14);refine rM ?_)
       (first|exact Sep.xt ‹_›|exact ⟨rfl,Sep.xt ‹_›⟩)
     ·rw [if_neg (not_not_intro hw)] at e2
      have hpp:FineP ps rk.length:=⟨by omega,fun p hp=>by have:=hpb p hp;omega⟩
      have h1k:=g1.ext hS.x
      have hrw:=hrk.ext hS.x
      have h0k:=h0.ext hS.x
      (have fct:=(a6 @q63 @q62 @q61 @q2 @q8 @q14);repeat' (first|refine G.reg fun K hK=>?_|(refine kM ?_;clear hK K)|refine sA ?_|((first|refine zalc ?_|refine zbsl ?_|((with_reducible refine gBox ?_);refine zbox ?_));intro gb wb hS)|((with_reducible refine gSt ?_);refine zs2 ?_;intro wb hS)|(refine G.cn ?_ ?_<;>intro hc<;>try exact zxf)))<;>(try clear fct)
      all_goals
      refine G.loop (fun r w'=>∃ j:Nat,j≤ps.length∧r 77=I j∧r 76=I ps.length∧r 75=lv∧r 16=vs.getD k2 default∧r 15=I k2∧r 63=I k2∧r 62=I vs.length∧r 61=vr∧r 2=.pointer (some ⟨gt,0,none⟩)∧r 8=lv∧r 14=.map (some gm) ∧
       nullM rk (ps.take j)=false∧Sep w w' [accC lv 3 eI ps,boxC gt 119 [vl,vr],mapC gm Value.bool (mbM ah)]) (fun r _=>ps.length - toN (r 77)) ?_ ?_
      ·have fct:=(a6 @q63 @q62 @q61 @q2 @q8 @q14);exact ⟨0,Nat.zero_le _,by exact sf,by exact sf,by exact sf,by exact sf,by exact sf,by exact sf,by exact sf,by exact sf,by exact sf,by exact sf,by exact sf,rfl,hS⟩
      ·clear hS q63 q62 q61 q2 q8 q14 h1k hrw h0k
       rintro u3 wl3 ⟨j,hj,q77,q76,q75,q16,q15,q63,q62,q61,q2,q8,q14,en,hS⟩ ih2
       have hm2:toN (u3 77)=j:=by rw [q77];simp [toN]
       have hrw:=hrk.ext hS.x
       by_cases hlj:(j:Int) < ps.length
       ·have hns:=nullM_step rk ps j hlj
        have hna:=nullM_at rk ps j hlj
        have hpj:=hpp.2 _ (getD_mem ps j hlj)
        generalize hpq:ps.getD j default=p at *
        obtain ⟨hp0,hp1⟩:=hpj
        by_cases hz:(rk.getD p.toNat default).kind=0
        ·rw [if_pos (hna hz)] at e2
         rw [e2]
         (have fct:=(aI @q77 (aI @q76 (aI @q75 (aI @q16 (aI @q15 (aI @q63 (aI @q62 (aI @q61 (aI @q2 (aI @q8 (aI @q14 (aI @hpq @hz))))))))))));repeat' (first|refine G.reg fun K hK=>?_|(refine kM ?_;clear hK K)|refine sA ?_|((first|refine zalc ?_|refine zbsl ?_|((with_reducible refine gBox ?_);refine zbox ?_));intro gb wb hS)|((with_reducible refine gSt ?_);refine zs2 ?_;intro wb hS)|(refine G.cn ?_ ?_<;>intro hc<;>try exact zxf)))<;>(try clear fct)
         all_goals
          (have fct:=(a11 @q77 @q76 @q75 @q16 @q15 @q63 @q62 @q61 @q2 @q8 @q14);refine rM ?_)
          (first|exact Sep.xt ‹_›|exact ⟨rfl,Sep.xt ‹_›⟩)
        ·rw [en,decide_eq_false hz] at hns
         (have fct:=(a12 @q77 @q76 @q75 @q16 @q15 @q63 @q62 @q61 @q2 @q8 @q14 @hpq);repeat' (first|refine G.reg fun K hK=>?_|(refine kM ?_;clear hK K)|refine sA ?_|((first|refine zalc ?_|refine zbsl ?_|((with_reducible refine gBox ?_);refine zbox ?_));intro gb wb hS)|((with_reducible refine gSt ?_);refine zs2 ?_;intro wb hS)|(refine G.cn ?_ ?_<;>intro hc<;>try exact zxf)))<;>(try clear fct)
         all_goals
          have fct:=(a11 @q77 @q76 @q75 @q16 @q15 @q63 @q62 @q61 @q2 @q8 @q14);refine ih2 _ _ ⟨j+1,by omega,by exact sf,by exact sf,by exact sf,by exact sf,by exact sf,by exact sf,by exact sf,by exact sf,by exact sf,by exact sf,by exact sf,hns,hS⟩ ?_
          rw [hm2];simp only [push_cast,↓reduceIte,zq1,zq2,zq3,zq4,zq5,toN_i,q77,q76,q75,q16,q15,q63,q62,q61,q2,q8,q14];omega
       ·rw [List.take_of_length_le zo] at en
        rw [en,if_neg ze] at e2
        have hmk:=fun (w2:World) (hx:Ext w w2) (hp:Rd w2 eI lv ps)=>markv_spec (w:=w2) (hrk.ext hx) hp hfv hpp (hT.ext hx)
        generalize markM tailV rk ps=mk at e2 hmk
        by_cases hin:0≤atM ah mk
        ·rw [if_pos hin] at e2
         rw [e2]
         have hdi:decide (0≤atM ah mk)=true:=decide_eq_true hin
         (have fct:=(aI @q77 (aI @q76 (aI @q75 (aI @q16 (aI @q15 (aI @q63 (aI @q62 (aI @q61 (aI @q2 (aI @q8 (aI @q14 (aI @mbM_get @hdi))))))))))));repeat' (first|refine G.reg fun K hK=>?_|(refine kM ?_;clear hK K)|refine sA ?_|((first|refine zalc ?_|refine zbsl ?_|((with_reducible refine gBox ?_);refine zbox ?_));intro gb wb hS)|((with_reducible refine gSt ?_);refine zs2 ?_;intro wb hS)|(refine zcp 110 (hmk _ hS.x (Sep.rd hS zr)) ?_;intro wb hS)|(refine zlk ?_)|(refine G.cn ?_ ?_<;>intro hc<;>try exact zxf)))<;>(try clear fct)
         all_goals
          (have fct:=(a11 @q77 @q76 @q75 @q16 @q15 @q63 @q62 @q61 @q2 @q8 @q14);refine rM ?_)
          (first|exact Sep.xt ‹_›|exact ⟨rfl,Sep.xt ‹_›⟩)
        ·rw [if_neg hin] at e2
         have hdi:decide (0≤atM ah mk)=false:=decide_eq_false hin
         (have fct:=(aI @q77 (aI @q76 (aI @q75 (aI @q16 (aI @q15 (aI @q63 (aI @q62 (aI @q61 (aI @q2 (aI @q8 (aI @q14 (aI @mbM_get @hdi))))))))))));repeat' (first|refine G.reg fun K hK=>?_|(refine kM ?_;clear hK K)|refine sA ?_|((first|refine zalc ?_|refine zbsl ?_|((with_reducible refine gBox ?_);refine zbox ?_));intro gb wb hS)|((with_reducible refine gSt ?_);refine zs2 ?_;intro wb hS)|(refine zcp 110 (hmk _ hS.x (Sep.rd hS zr)) ?_;intro wb hS)|(refine zlk ?_)|(refine zmu ?_;intro wb hS)|(refine G.cn ?_ ?_<;>intro hc<;>try exact zxf)))<;>(try clear fct)
         all_goals
          rw [mbM_put] at hS
          have fct:=(a11 @q77 @q76 @q75 @q16 @q15 @q63 @q62 @q61 @q2 @q8 @q14);refine ih _ _ ⟨k2+1,ah++[mk],by omega,by exact sf,by exact sf,by exact sf,by exact sf,by exact sf,by exact sf,e2,(Sep.sub hS zu)⟩ ?_
          rw [hm];simp only [push_cast,↓reduceIte,zq1,zq2,zq3,zq4,zq5,toN_i,q77,q76,q75,q16,q15,q63,q62,q61,q2,q8,q14];omega
    ·have h0k:=h0.ext hS.x
     rw [List.drop_eq_nil_of_le zo,rowsF] at e2
     rw [e2]
     (have fct:=(a6 @q63 @q62 @q61 @q2 @q8 @q14);repeat' (first|refine G.reg fun K hK=>?_|(refine kM ?_;clear hK K)|refine sA ?_|((first|refine zalc ?_|refine zbsl ?_|((with_reducible refine gBox ?_);refine zbox ?_));intro gb wb hS)|((with_reducible refine gSt ?_);refine zs2 ?_;intro wb hS)|(refine G.cn ?_ ?_<;>intro hc<;>try exact zxf)))<;>(try clear fct)
     all_goals
      (have fct:=(a6 @q63 @q62 @q61 @q2 @q8 @q14);refine rM ?_)
      refine ⟨?_,Sep.xt ‹_›⟩
      rw [l1]
      rfl
def eCg:Enc (Int×Value×Value):=⟨3,fun c=>[I c.1,c.2.1,c.2.2],fun _=>rfl⟩
instance : EncSz eCg 3 := ⟨rfl⟩
theorem eCg_f (c:Int×Value×Value):eCg.f c=[I c.1,c.2.1,c.2.2]:=rfl
attribute [push_cast] eCg_f
def RdCs (w:World) (v:Value) (cs:List Chg):Prop :=
 ∃ vs:List (Int×Value×Value),Rd w eCg v vs∧vs.length=cs.length∧∀ i,i < vs.length→(vs.getD i default).1=(cs.getD i default).kind∧Rd w eVal (vs.getD i default).2.1 (cs.getD i default).old∧Rd w eVal (vs.getD i default).2.2 (cs.getD i default).new
theorem RdCs.ext {w w':World} {v:Value} {cs:List Chg} (h:RdCs w v cs) (hx:Ext w w'):RdCs w' v cs:=by
 obtain ⟨vs,h1,h2,h3⟩:=h
 exact ⟨vs,h1.ext hx,h2,fun i hi=>⟨(h3 i hi).1,(h3 i hi).2.1.ext hx,(h3 i hi).2.2.ext hx⟩⟩
noncomputable def tailO (n:Int) (ps:List Int) (rs:List (List Val)) (q:Prop):Int :=
 if rs.any (fun r=>!decide ((r.length:Int)=n))=true then 10 else if rs.any (fun r=>nullM r ps)=true then 20 else @ite Int q (Classical.propDecidable q) 21 0
def frzG (vs:List (Int×Value×Value)) (cs:List Chg):Chk where
 ok w F:=vs.length=cs.length∧∀ i,i < cs.length→(vs.getD i default).1=(cs.getD i default).kind∧RdF F w eVal (vs.getD i default).2.1 (cs.getD i default).old∧RdF F w eVal (vs.getD i default).2.2 (cs.getD i default).new
 loc:=fun hb ⟨h1,h2⟩=>⟨h1,fun i hi=>⟨(h2 i hi).1,(h2 i hi).2.1.loc hb,(h2 i hi).2.2.loc hb⟩⟩
section
variable {w w' w0:World} {L M N R:List Chk} {vs:List (Int×Value×Value)} {cs:List Chg} {a b v:Value} {old new:List Val} {t u:TypeId} {k:Int}
theorem Sep.frzG0 (hS:Sep w0 w L):Sep w0 w (frzG [] [] :: L):=hS.push (Ext.refl w) (F:=fun _=>False) ⟨rfl,fun i hi=>by simp at hi⟩ (fun _ h=>h.elim)
theorem rdF_nil {F:Nat→Prop} {w:World}:RdF F w eVal (.slice none 0 0) []:=⟨⟨none,0,rfl,by simp,by simp,by simp,fun h0=>by simp at h0⟩,fun _ _ _ _ h=>by simp at h⟩
theorem frzG_snoc {F G:Nat→Prop} (h:(frzG vs cs).ok w G) (ha:RdF F w eVal a old) (hb:RdF F w eVal b new):(frzG (vs++[(k,a,b)]) (cs++[⟨k,old,new⟩])).ok w (fun b=>F b∨G b):=by
 obtain ⟨hl,hr⟩:=h
 refine ⟨by simp [hl],fun i hi=>?_⟩
 simp only [List.length_append,List.length_cons,List.length_nil] at hi
 by_cases hlt:i < cs.length
 ·rw [getD_snoc_lt _ _ _ _ zo,getD_snoc_lt _ _ _ _ hlt]
  exact ⟨(hr i hlt).1,(hr i hlt).2.1.mono fun b h=>.inr h,(hr i hlt).2.2.mono fun b h=>.inr h⟩
 ·have:i=cs.length:=by omega
  subst this
  rw [getD_snoc_eq,←hl,getD_snoc_eq]
  exact ⟨rfl,ha.mono fun b h=>.inl h,hb.mono fun b h=>.inl h⟩
theorem Sep.frzGTwo (hS:Sep w0 w L) (h1:Ex (accC a t eVal old) L M) (h2:Ex (accC b u eVal new) M N) (h3:Ex (frzG vs cs) N R):Sep w0 w (frzG (vs++[(k,a,b)]) (cs++[⟨k,old,new⟩]) :: R):=by
 obtain ⟨F,f1,f2,f3⟩:=SepL.take h1 hS.2
 obtain ⟨E,e1,e2,e3⟩:=SepL.take h2 f3
 obtain ⟨G,g1,g2,g3⟩:=SepL.take h3 e3
 refine ⟨hS.1,fun b=>(F b∨E b)∨G b,frzG_snoc g1 ((acc_rdF f1).mono fun b h=>.inl h) ((acc_rdF e1).mono fun b h=>.inr h),fun b hb=>?_,SepL.mono g3 ?_⟩
 ·rcases hb with (hb|hb)|hb
  ·exact ⟨(f2 b hb).1,(f2 b hb).2.1,id⟩
  ·exact ⟨(e2 b hb).1,(e2 b hb).2.1,id⟩
  ·exact ⟨(g2 b hb).1,(g2 b hb).2.1,id⟩
 ·rintro b (h|(h|h)|h)
  ·exact h.elim
  ·exact .inl (.inl (.inr h))
  ·exact .inl (.inr h)
  ·exact .inr h
theorem Sep.frzGOld (hS:Sep w0 w L) (h1:Ex (accC a t eVal old) L N) (h3:Ex (frzG vs cs) N R):Sep w0 w (frzG (vs++[(k,a,.slice none 0 0)]) (cs++[⟨k,old,[]⟩]) :: R):=by
 obtain ⟨F,f1,f2,f3⟩:=SepL.take h1 hS.2
 obtain ⟨G,g1,g2,g3⟩:=SepL.take h3 f3
 refine ⟨hS.1,fun b=>F b∨G b,frzG_snoc g1 (acc_rdF f1) rdF_nil,fun b hb=>?_,SepL.mono g3 ?_⟩
 ·rcases hb with hb|hb
  ·exact ⟨(f2 b hb).1,(f2 b hb).2.1,id⟩
  ·exact ⟨(g2 b hb).1,(g2 b hb).2.1,id⟩
 ·rintro b (h|h|h)
  ·exact h.elim
  ·exact .inl (.inr h)
  ·exact .inr h
theorem Sep.frzGNew (hS:Sep w0 w L) (h1:Ex (accC b t eVal new) L N) (h3:Ex (frzG vs cs) N R):Sep w0 w (frzG (vs++[(k,.slice none 0 0,b)]) (cs++[⟨k,[],new⟩]) :: R):=by
 obtain ⟨F,f1,f2,f3⟩:=SepL.take h1 hS.2
 obtain ⟨G,g1,g2,g3⟩:=SepL.take h3 f3
 refine ⟨hS.1,fun b=>F b∨G b,frzG_snoc g1 rdF_nil (acc_rdF f1),fun b hb=>?_,SepL.mono g3 ?_⟩
 ·rcases hb with hb|hb
  ·exact ⟨(f2 b hb).1,(f2 b hb).2.1,id⟩
  ·exact ⟨(g2 b hb).1,(g2 b hb).2.1,id⟩
 ·rintro b (h|h|h)
  ·exact h.elim
  ·exact .inl (.inr h)
  ·exact .inr h
theorem Sep.frzGLen (hS:Sep w0 w L) (h:Ex (frzG vs cs) L R):vs.length=cs.length:=by
 obtain ⟨F,h1,_⟩:=hS.get h
 exact h1.1
theorem Sep.rdCs (hS:Sep w0 w L) (h1:Ex (accC v u eCg vs) L M) (h2:Ex (frzG vs cs) L R):RdCs w v cs:=by
 obtain ⟨F,f1,f2⟩:=hS.get h2
 exact ⟨vs,hS.rd h1,f1.1,fun i hi=>⟨(f2' f1 i hi).1,(f2' f1 i hi).2.1.1,(f2' f1 i hi).2.2.1⟩⟩
where f2' {F:Nat→Prop} (f1:(frzG vs cs).ok w F) (i:Nat) (hi:i < vs.length):=f1.2 i (f1.1 ▸ hi)
end
theorem nil_of_isNil {α:Type} {E:Enc α} {v:Value} {l:List α} {w:World} (hr:Rd w E v l) (hc:isNil v=true):l=[]:=by
 obtain ⟨p,cap,rfl,h2,h3,h4,h5⟩:=hr
 rcases Nat.eq_zero_or_pos l.length with h|h
 ·exact List.eq_nil_of_length_eq_zero h
 ·obtain ⟨a,ha,_⟩:=h5 h;subst ha;simp [isNil] at hc
def c111:MC:=(Z (yr [qq 2 (.mv (yc (.slice none 0 0)))]) (Z (Z (yr [qm 3 0,qq 4 (.raw (.binOp .eql 124 (Y 3) (yc (.slice none 0 0)) 124) 4)]) (yd (Y 4) (Z (yr [qq 2 (.mv (yc (.slice none 0 0)))]) .ret) yk)) (Z (yr [qq 5 (.bsl 129 [] 0 []),qm 6 0,qq 7 (.raw (.call ⟨(.builtin .append),#[(Y 5),(Y 6)],#[124,124]⟩) 124),qm 2 7]) .ret)))
theorem cloneV_spec {v:Value} {l:List Val} {w:World} (hr:Rd w eVal v l) (hl:l.length≤1000000000):Ret Tryz.prog 111 #[v] w fun v' w'=>Sep w w' [accC v' 129 eVal l]:=by
 refine En 8 c111 Tryz.func111 ?_
 have hS:=Sep.start w
 repeat' (first|(refine gO ?_;intro K hK)|(refine kP ?_;clear hK K)|(refine hK _ _ ?_ ?_<;>clear hK K)|(intro wd hxd;have hS:=Sep.xx hxd)|refine sA ?_|(refine bM ?_ ?_<;>intro hb hc<;>first|exact zxf|(simp only [hb];clear hb))|((first|refine zalc ?_|refine zbsl ?_|((with_reducible refine gBox ?_);refine zbox ?_));intro gb wb hS)|((with_reducible refine gSt ?_);refine zs2 ?_;intro wb hS)|(refine zcv ?_)|(refine zn1 ?_)|(refine zn2 ?_)|(refine zn3 ?_)|(refine zn4 ?_)|(refine G.cn ?_ ?_<;>intro hc<;>try exact zxf))
 ·have:l=[]:=nil_of_isNil hr hc
  subst this
  refine rM ?_
  exact hS.nil _ _
 ·have hS:=Sep.toAcc (E:=eVal) ([]:List Val) hS Up.h rfl rfl ze ze
  ((refine zan ?_;intro vb wb hS))
  repeat' (first|(refine gO ?_;intro K hK)|(refine kP ?_;clear hK K)|(refine hK _ _ ?_ ?_<;>clear hK K)|(intro wd hxd;have hS:=Sep.xx hxd)|refine sA ?_|(refine bM ?_ ?_<;>intro hb hc<;>first|exact zxf|(simp only [hb];clear hb))|((first|refine zalc ?_|refine zbsl ?_|((with_reducible refine gBox ?_);refine zbox ?_));intro gb wb hS)|((with_reducible refine gSt ?_);refine zs2 ?_;intro wb hS)|(refine zcv ?_)|(refine G.cn ?_ ?_<;>intro hc<;>try exact zxf))
  repeat' (first|(refine gO ?_;intro K hK)|(refine kP ?_;clear hK K)|(refine hK _ _ ?_ ?_<;>clear hK K)|(intro wd hxd;have hS:=Sep.xx hxd)|refine sA ?_|(refine bM ?_ ?_<;>intro hb hc<;>first|exact zxf|(simp only [hb];clear hb))|((first|refine zalc ?_|refine zbsl ?_|((with_reducible refine gBox ?_);refine zbox ?_));intro gb wb hS)|((with_reducible refine gSt ?_);refine zs2 ?_;intro wb hS)|(refine zcv ?_)|(refine G.cn ?_ ?_<;>intro hc<;>try exact zxf))
  refine rM ?_
  exact hS
theorem checkM_nil:checkM ([]:List (Str×Int))=(0,13):=by unfold checkM;simp
theorem dchk_ne {l:List Col} {rows:List (List Val)} {keys:List Str} (h:(dchkM l rows keys).2=0):l≠[]:=by
 intro e
 subst e
 unfold dchkM at h
 rw [List.map_nil,checkM_nil] at h
 simp at h
theorem plc_fine {l:List Col} {keys:List Str} (hl:l≠[]) (hk:keys.length≤1000):FineP (placesM l keys) l.length:=by
 refine ⟨by unfold placesM;rw [List.length_map];exact hk,fun p hp=>?_⟩
 unfold placesM at hp
 obtain ⟨k,_,rfl⟩:=List.mem_map.1 hp
 by_cases h:0≤atM (l.map (·.name)) k
 ·have:=plcM_lt l k h;omega
 ·unfold plcM
  rw [if_neg h]
  have:=List.length_pos_iff.2 hl
  omega
end Go.Proofs.YtllanbmpacgigaaGreatDoor
