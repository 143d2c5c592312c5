/- Texts of the proof, joined. -/
import Derived.Test.YtllanbmpacgigaaGreatDoorIG30
import Derived.Test.YtllanbmpacgigaaGreatDoorIW30
import Derived.Test.YtllanbmpacgigaaGreatDoorIV30
namespace Go.Proofs.YtllanbmpacgigaaGreatDoor
open Nat renaming reduceAdd→zq1,reduceLeDiff→zq2,reduceEqDiff→zq3,reduceLT→zq4
open Int renaming reduceToNat→zq5
set_option linter.unusedSimpArgs false
set_option linter.unusedVariables false
attribute [local irreducible] SemK UnitK StK AlcK BslK CallK CallV Instr.box Builtin.append_ Instr.makeSlice Instr.makeMap Instr.lookup Instr.mapUpdate Instr.sliceAt convert
open Go.RowKit
def checkK (d:Dl) (t:Str):Str:=if (parM d wideL t).k=0 then [114,101,99,111,114,100,115,32]++Lib.itoa (parM d wideL t).rs.length else [102,97,117,108,116,32]++Lib.itoa (parM d wideL t).k++[32]++Lib.itoa (parM d wideL t).a
section
variable {g r:Nat} {d:Dl} {l:List Col} {lv:Value} {m:Str→Option Str} {M:List Chk} {w w0:World}
set_option maxHeartbeats 1000000 in
theorem dcheckA_spec (s:Str) (hl:s.length≤900000) (hr:rightD d=true) (ht:Tab w0) (hS:Sep w0 w (boxC g 55 [U d.dl,U d.q,I d.e,lv,.map (some r)] :: mapC r S m :: M)) :
 Ret Tryz.prog 80 #[(.pointer (some ⟨g,0,none⟩)),S s] w fun res w'=>res=S (checkK d s)∧Sep w0 w' (boxC g 55 [U d.dl,U d.q,I d.e,lv,.map (some r)] :: mapC r S m :: M):=by
 unfold checkK
 by_cases hk:(parM d wideL s).k=0
 ·rw [if_pos hk];exact dcheck_spec s hl hr hk ht hS
 rw [if_neg hk]
 refine En 33 c80 Tryz.func80 ?_
 have hp:=fun w=>wpar_spec d s w hl hr
 obtain ⟨⟨b1,b2⟩,b3⟩:=parM_kb d wideL s
 generalize parM d wideL s=R at *
 have l1:=itoa_ln R.k zo zo
 have l2:=itoa_ln R.a zo zo
 repeat' (first|(refine gO ?_;intro K hK)|(refine kP ?_;clear hK K)|(refine hK _ _ ?_ ?_<;>clear hK K)|(intro wd hxd;have hS:=Sep.xx hxd)|refine sA ?_|(refine zalc ?_;intro gb wb hS)|((with_reducible refine gSt ?_);refine zs2 ?_;intro wb hS)|(with_reducible refine aI (a:=OT _ _ _ _ _) (b:=OT _ _ _ _ _) ?_ ?_)|((with_reducible (show CallK _ 72 [] _ _ _ _));refine zcp 72 (wide_spec _) ?_;intro wb hS)|(refine zco 38 (hp _) ?_;rintro vb wb ⟨v,vs,rfl,hvl,hS2⟩;have hS:=hS2.ap;simp only [apps] at hS)|((with_reducible (show CallK _ 30 [I R.k] _ _ _ _));refine zcp 30 (itoa_spec R.k _ zo zo (ht.ext (Sep.xt ‹_›))) ?_;intro wb hS)|((with_reducible (show CallK _ 30 [I R.a] _ _ _ _));refine zcp 30 (itoa_spec R.a _ zo zo (ht.ext (Sep.xt ‹_›))) ?_;intro wb hS)|(refine G.cn ?_ ?_<;>intro hc<;>try exact zxf))
 all_goals
  refine rM ?_
  (first|exact (Sep.sub hS zw)|exact ⟨rfl,(Sep.sub hS zw)⟩)
theorem nerr_spec (vb nm:Str) (hl:nm.length≤100000000) (h:nmM nm=false∨m nm=none) (hS:Sep w0 w (boxC g 55 [U d.dl,U d.q,I d.e,lv,.map (some r)] :: mapC r S m :: M)) :
 Ret Tryz.prog 51 #[(.pointer (some ⟨g,0,none⟩)),S vb,S nm] w fun v w'=>v=.tuple #[S [],I (if nmM nm=true then 25 else 23)]∧Sep w0 w' (boxC g 55 [U d.dl,U d.q,I d.e,lv,.map (some r)] :: mapC r S m :: M):=by
 refine En 63 c51 Tryz.func51 ?_
 cases hn:nmM nm with
 | false =>
   (have fct:=@hn;repeat' (first|refine G.reg fun K hK=>?_|(refine kM ?_;clear hK K)|refine sA ?_|(refine zcp 65 (lnamed_spec _ _ zo) ?_;intro wb hS)|(refine zlk ?_)|(refine G.cn ?_ ?_<;>intro hc<;>try exact zxf)))<;>(try clear fct)
   all_goals
    refine rM ?_
    (first|exact (Sep.sub hS zw)|exact ⟨rfl,(Sep.sub hS zw)⟩)
 | true =>
   have hm:=h.resolve_left (by rw [hn];simp)
   (have fct:=(aI @hn @hm);repeat' (first|refine G.reg fun K hK=>?_|(refine kM ?_;clear hK K)|refine sA ?_|(refine zcp 65 (lnamed_spec _ _ zo) ?_;intro wb hS)|(refine zlk ?_)|(refine G.cn ?_ ?_<;>intro hc<;>try exact zxf)))<;>(try clear fct)
   all_goals
    refine rM ?_
    (first|exact (Sep.sub hS zw)|exact ⟨rfl,(Sep.sub hS zw)⟩)
theorem nsniff_spec (nm t:Str) (hl:nm.length≤100000000) (htl:t.length≤100000) (hT:Tab w0) (hn:nmM nm=true) (hm:m nm=some t) (hS:Sep w0 w (boxC g 55 [U d.dl,U d.q,I d.e,lv,.map (some r)] :: mapC r S m :: M)) :
 Ret Tryz.prog 51 #[(.pointer (some ⟨g,0,none⟩)),S [115,110,105,102,102],S nm] w fun v w'=>v=.tuple #[S (if 0 < (bestK t).sc then txD (bestK t).d++[32]++Lib.itoa (bestK t).sc else []),I (if 0 < (bestK t).sc then 0 else 25)]∧Sep w0 w' (boxC g 55 [U (if 0 < (bestK t).sc then (bestK t).d else d).dl,U (if 0 < (bestK t).sc then (bestK t).d else d).q,I (if 0 < (bestK t).sc then (bestK t).d else d).e,lv,.map (some r)] :: mapC r S m :: M):=by
 refine En 63 c51 Tryz.func51 ?_
 have e1:(([115,110,105,102,102]:Str) == [115,104,111,119])=false:=zd
 have e2:(([115,110,105,102,102]:Str) == [99,104,101,99,107])=false:=zd
 have e3:(([115,110,105,102,102]:Str) == [112,108,97,105,110])=false:=zd
 have hsn:=fun w hS=>vsniff_spec (w:=w) (w0:=w0) (g:=g) (r:=r) (d:=d) (lv:=lv) (M:=mapC r S m :: M) t htl hT hS
 generalize bestK t=b at *
 by_cases h0:0 < b.sc
 ·simp only [if_pos h0] at hsn ⊢
  (have fct:=(a5 @hn @hm @e1 @e2 @e3);repeat' (first|refine G.reg fun K hK=>?_|(refine kM ?_;clear hK K)|refine sA ?_|(refine zcp 65 (lnamed_spec _ _ zo) ?_;intro wb hS)|(refine zlk ?_)|(refine zco 82 (hsn _ hS) ?_;rintro vb wb ⟨rfl,hS⟩)|(refine G.cn ?_ ?_<;>intro hc<;>try exact zxf)))<;>(try clear fct)
  all_goals
   refine rM ?_
   (first|exact (Sep.sub hS zw)|exact ⟨rfl,(Sep.sub hS zw)⟩)
 ·simp only [if_neg h0] at hsn ⊢
  (have fct:=(a5 @hn @hm @e1 @e2 @e3);repeat' (first|refine G.reg fun K hK=>?_|(refine kM ?_;clear hK K)|refine sA ?_|(refine zcp 65 (lnamed_spec _ _ zo) ?_;intro wb hS)|(refine zlk ?_)|(refine zco 82 (hsn _ hS) ?_;rintro vb wb ⟨rfl,hS⟩)|(refine G.cn ?_ ?_<;>intro hc<;>try exact zxf)))<;>(try clear fct)
  all_goals
   refine rM ?_
   (first|exact (Sep.sub hS zw)|exact ⟨rfl,(Sep.sub hS zw)⟩)
theorem nrows_spec (nm t:Str) (hl:nm.length≤100000000) (htl:t.length≤4000) (hl1:l.length≤10000) (hl2:∀ c∈l,c.name.length≤10000) (hT:Tab w0) (hv:ErrV w0) (hn:nmM nm=true) (hm:m nm=some t) (hrl:(rowsK d l t).1.length≤10000) (hS:Sep w0 w (boxC g 55 [U d.dl,U d.q,I d.e,lv,.map (some r)] :: mapC r S m :: accC lv 121 eC l :: M)) :
 Ret Tryz.prog 51 #[(.pointer (some ⟨g,0,none⟩)),S [114,111,119,115],S nm] w fun v w'=>v=.tuple #[S (if (rowsK d l t).2=0 then Lib.itoa (rowsK d l t).1.length else []),I (rowsK d l t).2]∧Sep w0 w' (boxC g 55 [U d.dl,U d.q,I d.e,lv,.map (some r)] :: mapC r S m :: accC lv 121 eC l :: M):=by
 refine En 63 c51 Tryz.func51 ?_
 have e1:(([114,111,119,115]:Str) == [115,104,111,119])=false:=zd
 have e2:(([114,111,119,115]:Str) == [99,104,101,99,107])=false:=zd
 have e3:(([114,111,119,115]:Str) == [112,108,97,105,110])=false:=zd
 have e4:(([114,111,119,115]:Str) == [115,110,105,102,102])=false:=zd
 have hra:=fun (w':World) (h:Sep w0 w' (boxC g 55 [U d.dl,U d.q,I d.e,lv,.map (some r)] :: mapC r S m :: accC lv 121 eC l :: M))=>vrows_spec t zo zo (fun c hc=>by have:=hl2 c hc;omega) hv h
 generalize rowsK d l t=A at *
 obtain ⟨ra,ea⟩:=A
 dsimp only at hra hrl ⊢
 by_cases h0:ea=0
 ·subst h0
  rw [if_pos rfl]
  have hit:∀ {k:Nat} {w2:World},k=ra.length→Ext w0 w2→Pu Tryz.prog 30 #[I k] w2 (S (Lib.itoa ra.length)):=fun {k w2} h hx=>by rw [h];exact itoa_spec _ _ zo zo (hT.ext hx)
  (have fct:=(a6 @hn @hm @e1 @e2 @e3 @e4);repeat' (first|refine G.reg fun K hK=>?_|(refine kM ?_;clear hK K)|refine sA ?_|(refine zcp 65 (lnamed_spec _ _ zo) ?_;intro wb hS)|(refine zlk ?_)|((with_reducible (show CallK _ 75 [_,_] _ _ _ _));refine zco 75 (hra _ hS) ?_;rintro vb wb ⟨v1,vs1,rfl,hS⟩;have hfl:=Sep.frzLen hS (.t .h))|(refine zcp 30 (hit hfl (Sep.xt ‹_›)) ?_;intro wb hS)|(refine G.cn ?_ ?_<;>intro hc<;>try exact zxf)))<;>(try clear fct)
  all_goals
   refine rM ?_
   (first|exact (Sep.sub hS zw)|exact ⟨rfl,(Sep.sub hS zw)⟩)
 ·rw [if_neg h0]
  (have fct:=(a6 @hn @hm @e1 @e2 @e3 @e4);repeat' (first|refine G.reg fun K hK=>?_|(refine kM ?_;clear hK K)|refine sA ?_|(refine zcp 65 (lnamed_spec _ _ zo) ?_;intro wb hS)|(refine zlk ?_)|((with_reducible (show CallK _ 75 [_,_] _ _ _ _));refine zco 75 (hra _ hS) ?_;rintro vb wb ⟨v1,vs1,rfl,hS⟩;have hfl:=Sep.frzLen hS (.t .h))|(refine G.cn ?_ ?_<;>intro hc<;>try exact zxf)))<;>(try clear fct)
  all_goals
   refine rM ?_
   (first|exact (Sep.sub hS zw)|exact ⟨rfl,(Sep.sub hS zw)⟩)
end
end Go.Proofs.YtllanbmpacgigaaGreatDoor
