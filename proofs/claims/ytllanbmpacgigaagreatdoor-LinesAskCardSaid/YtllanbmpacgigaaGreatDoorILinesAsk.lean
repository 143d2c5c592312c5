/- The frame of the law LinesAsk. -/
import Derived.Test.YtllanbmpacgigaaGreatDoorRows
import Derived.Test.YtllanbmpacgigaaGreatDoorCards
import Derived.Test.YtllanbmpacgigaaGreatDoorTie
import Derived.ProofKit
import Derived.OpenShut
import Derived.ShutString
import Derived.Carry
import Derived.LaidMore
import Derived.Stop.Joined
import Derived.SevenTiedAt
import Derived.Test.YtllanbmpacgigaaGreatDoorIO31
namespace Go.Proofs.YtllanbmpacgigaaGreatDoor.linesAsk
open Go.ChangeShapes Go.WideShapes Go.ChangeAt Go.RowKit
open Go.ChangeMaps (open_string shut_string)
set_option linter.unusedSimpArgs false
set_option linter.unusedVariables false
theorem own:ownKnob Tryz.prog.godebug=none:=zf
theorem laid:laidOutB Tryz.prog=true:=zf
theorem door_met (os:Os) (args:Array Value):laidMetH Tryz.prog Rows.linesAskRow.laid ((World.doorLaid Tryz.prog 62 os).forCall (fun _ _=>0) ⟨#[],args,[]⟩).memory :=
  laidMetH_of_parts3 (fuel:=8) (laidMet_of_run' 8 zf zf) zf zf
set_option maxRecDepth 100000 in
theorem lifted (os:Os) (started:os.Started) (H:Type) (enc:TypeId×Value→H) :
    ReturnsInHanded {} Tryz.checked os 4 .any (fun w args=>(Rows.linesAskSpec.pre enc Tryz.prog Tryz.f4 [] false w args∧laidMetH Tryz.prog Rows.linesAskRow.laid w)∧sizedMet enc Tryz.prog Tryz.f4 (OpenSpec.ofChange Rows.linesAskSpec) false w args)
      (Rows.linesAskSpec.post enc Tryz.prog Tryz.f4 false true false false):=by
  refine returnsInHanded_of_change_and (C:=Tryz.checked) (X:=fun w _=>laidMetH Tryz.prog Rows.linesAskRow.laid w) (fun _ _ _ hh h=>h.of_heap hh) own started zf Tryz.func4
    (ChangeSpec.witness_shaped (enc:=enc) (C:=Tryz.checked) (os:=os) (X:=fun w _=>laidMetH Tryz.prog Rows.linesAskRow.laid w) false (World.doorLaid Tryz.prog 62 os) #[.slice none 0 0,.string ByteArray.empty,.int .u8 0] 8 rfl (World.shaped_of_RefB zf zf) zf zf zf (door_met os _)) ?_
  intro W base args ds gs before hval0 hW _ hall hL _
  have ht:Tab W:=tab_of zf zf hL
  have hval:∀ (j:Nat) t v,Tryz.f4.params[j]?=some t→args[j]?=some v→Value.okWide Tryz.prog W .any base t v:=hval0
  have hW':=hW
  obtain ⟨p,q,hA0,hV,rfl,hfz,hnd⟩:=hW
  have hA:DataW.TrodAll enc Tryz.prog W 0 (fun _=>true) true Tryz.f4.params.toList args.toList ds p:=hA0
  rw [Tryz.params4] at hA hval
  obtain ⟨v0,vs0,d0,ds0,p0,q0,hargs,rfl,rfl,h0,r0⟩:=trodAll_cons hA
  obtain ⟨v1,vs1,d1,ds1,p1,q1,rfl,rfl,rfl,h1,r1⟩:=trodAll_cons r0
  obtain ⟨v2,vs2,d2,ds2,p2,q2,rfl,rfl,rfl,h2,r2⟩:=trodAll_cons r1
  obtain ⟨rfl,rfl,rfl⟩:=trodAll_nil r2
  obtain rfl:args=#[v0,v1,v2]:=by cases args;simp_all
  obtain ⟨rfl,rfl⟩:=trodVars_none hV
  have k0:=h0
  obtain ⟨x0,g0,bl0⟩:=open_rdW Tryz.underlying22 Tryz.underlying9 zf (hval 0 22 v0 rfl rfl) h0
  have hsz:∀ s∈x0,s.length≤140737488355328:=fun s hs=>by
    have h3:=List.all_eq_true.1 hall _ (DataW.weights_mem_each (j:=0) (t:=22) (d:=d0) (by rw [Tryz.params4];rfl) rfl _ (bl0 s hs))
    have h4:s.length≤reachBytes:=by simpa using h3
    exact Nat.le_trans h4 zd
  have k1:=h1
  obtain ⟨a1,e1,_,_,wf1⟩:=open_string Tryz.underlying9 (hval 1 9 v1 rfl rfl) h1
  subst e1
  have k2:=h2
  obtain ⟨a2,e2,_,_,wf2⟩:=open_int Tryz.underlying5 (hval 2 5 v2 rfl rfl) h2
  subst e2
  have hlt:=fun x hx=>hW'.lt x hx
  refine (walk_of (law_ask (ask:=a1.data.toList) (a:=a2) _ g0 hsz (len_wf wf1) (u8_wf wf2) (errv_of zf zf hL) ht)).mono fun e W' ⟨he,hg⟩=>?_
  subst he
  exact ⟨_,rfl,post_of_below (pa:=(p0++(p1++(p2++[])))) (pv:=[]) hW' (fun _ _ _=>(trodAll_cons_mk (shut_bool Tryz.underlying4 _) trodAll_mk0)) (fun sp hsp=>(trodAll_cons_mk (WideElems.Trod_stays laid zf (of_decide_eq_true zf) k0 (fun x hx=>hg.same (hlt x (by simp [hx]))) (fun x hx=>hsp x (by simp [hx]))) (trodAll_cons_mk (WideElems.Trod_stays laid zf (of_decide_eq_true zf) k1 (fun x hx=>hg.same (hlt x (by simp [hx]))) (fun x hx=>hsp x (by simp [hx]))) (trodAll_cons_mk (WideElems.Trod_stays laid zf (of_decide_eq_true zf) k2 (fun x hx=>hg.same (hlt x (by simp [hx]))) (fun x hx=>hsp x (by simp [hx]))) trodAll_mk0)))) (fun _ _=>rfl) rfl
    hg (ok_one zf rfl (okWide_bool_mk Tryz.underlying4 _))⟩
theorem over:Rows.LinesAskSaid :=
  OpenClaim.holds_of_wide 4 Tryz.f4 rfl rfl rfl rfl rfl rfl rfl ⟨rfl,rfl,rfl,rfl,rfl⟩ rfl rfl rfl rfl rfl zf Tryz.func4 zf
    (of_decide_eq_true zf) (by unfold Func.isWrapper;first|(rw [if_pos (by decide +kernel)];kernel_rfl)|(rw [if_neg (by decide +kernel)];exact ⟨rfl,rfl⟩))
    (fun os started H enc _=>lifted os started H enc)
theorem proved:Rows.LinesAskCardSaid :=
  Claim7.holds_tied_plain_at .later [] [.data, .data, .data, .sentinel, .sentinel] true (true, "7b5cd880a4e576344aefb646a3c189c04094caf56d7fc712c9b74a26eccc1d40") true
    over (fun _ h=>by cases h) zf (fun _ h=>by cases h) linesAsk_row_tie rfl ⟨rfl,rfl⟩ zf rfl
    (fun f fn hf hfn=>by
      obtain rfl : f = 4 := Option.some.inj ((show Tryz.prog.funcNamed "quillpen/quillpenlaw30.LinesAsk" = some 4 by kernel_rfl).symm.trans hf) |>.symm
      obtain rfl:fn=Tryz.f4:=(Option.some.inj (Tryz.func4.symm.trans hfn)).symm
      exact ⟨by kernel_rfl,fun j t ht=>by
        rw [Tryz.params4] at ht
        have hm:t∈[22,9,5]:=by have:=Array.mem_of_getElem? ht;simp at this ⊢;omega
        have hall:([22,9,5].all fun u=>!Tryz.prog.wantsStandIn u)=true:=zf
        exact (show Tryz.prog.wantsStandIn t=false by simpa using List.all_eq_true.1 hall t hm)⟩)
    zf
end Go.Proofs.YtllanbmpacgigaaGreatDoor.linesAsk
