/- The frame of the law LinesPlay. -/
import Derived.Test.YtllanbmpacgigaaGreatDoorRows
import Derived.Test.YtllanbmpacgigaaGreatDoorCards
import Derived.Test.YtllanbmpacgigaaGreatDoorTie
import Derived.ProofKit
import Derived.OpenShut
import Derived.ShutString
import Derived.Carry
import Derived.LaidMore
import Derived.Stop.Joined
import Derived.SevenTiedAt
import Derived.Test.YtllanbmpacgigaaGreatDoorHF31
namespace Go.Proofs.YtllanbmpacgigaaGreatDoor.linesPlay
open Go.ChangeShapes Go.WideShapes Go.ChangeAt Go.RowKit
open Go.ChangeMaps (open_string shut_string)
set_option linter.unusedSimpArgs false
set_option linter.unusedVariables false
theorem own:ownKnob Tryz.prog.godebug=none:=zf
theorem laid:laidOutB Tryz.prog=true:=zf
theorem door_met (os:Os) (args:Array Value):laidMetH Tryz.prog Rows.linesPlayRow.laid ((World.doorLaid Tryz.prog 62 os).forCall (fun _ _=>0) ⟨#[],args,[]⟩).memory :=
  laidMetH_of_parts3 (fuel:=8) (laidMet_of_run' 8 zf zf) zf zf
set_option maxRecDepth 100000 in
theorem lifted (os:Os) (started:os.Started) (H:Type) (enc:TypeId×Value→H) :
    ReturnsInHanded {} Tryz.checked os 3 .any (fun w args=>(Rows.linesPlaySpec.pre enc Tryz.prog Tryz.f3 [] false w args∧laidMetH Tryz.prog Rows.linesPlayRow.laid w)∧sizedMet enc Tryz.prog Tryz.f3 (OpenSpec.ofChange Rows.linesPlaySpec) false w args)
      (Rows.linesPlaySpec.post enc Tryz.prog Tryz.f3 false true false false):=by
  refine returnsInHanded_of_change_and (C:=Tryz.checked) (X:=fun w _=>laidMetH Tryz.prog Rows.linesPlayRow.laid w) (fun _ _ _ hh h=>h.of_heap hh) own started zf Tryz.func3
    (ChangeSpec.witness_shaped (enc:=enc) (C:=Tryz.checked) (os:=os) (X:=fun w _=>laidMetH Tryz.prog Rows.linesPlayRow.laid w) false (World.doorLaid Tryz.prog 62 os) #[.slice none 0 0] 8 rfl (World.shaped_of_RefB zf zf) zf zf zf (door_met os _)) ?_
  intro W base args ds gs before hval0 hW _ hall hL _
  have ht:Tab W:=tab_of zf zf hL
  have hval:∀ (j:Nat) t v,Tryz.f3.params[j]?=some t→args[j]?=some v→Value.okWide Tryz.prog W .any base t v:=hval0
  have hW':=hW
  obtain ⟨p,q,hA0,hV,rfl,hfz,hnd⟩:=hW
  have hA:DataW.TrodAll enc Tryz.prog W 0 (fun _=>true) true Tryz.f3.params.toList args.toList ds p:=hA0
  rw [Tryz.params3] at hA hval
  obtain ⟨v0,vs0,d0,ds0,p0,q0,hargs,rfl,rfl,h0,r0⟩:=trodAll_cons hA
  obtain ⟨rfl,rfl,rfl⟩:=trodAll_nil r0
  obtain rfl:args=#[v0]:=by cases args;simp_all
  obtain ⟨rfl,rfl⟩:=trodVars_none hV
  have k0:=h0
  obtain ⟨x0,g0,bl0⟩:=open_rdW Tryz.underlying22 Tryz.underlying9 zf (hval 0 22 v0 rfl rfl) h0
  have hsz:∀ s∈x0,s.length≤140737488355328:=fun s hs=>by
    have h3:=List.all_eq_true.1 hall _ (DataW.weights_mem_each (j:=0) (t:=22) (d:=d0) (by rw [Tryz.params3];rfl) rfl _ (bl0 s hs))
    have h4:s.length≤reachBytes:=by simpa using h3
    exact Nat.le_trans h4 zd
  have hlt:=fun x hx=>hW'.lt x hx
  refine (walk_of (law_play _ g0 hsz (errv_of zf zf hL) ht)).mono fun e W' ⟨he,hg⟩=>?_
  subst he
  exact ⟨_,rfl,post_of_below (pa:=(p0++[])) (pv:=[]) hW' (fun _ _ _=>(trodAll_cons_mk (shut_bool Tryz.underlying4 _) trodAll_mk0)) (fun sp hsp=>(trodAll_cons_mk (WideElems.Trod_stays laid zf (of_decide_eq_true zf) k0 (fun x hx=>hg.same (hlt x (by simp [hx]))) (fun x hx=>hsp x (by simp [hx]))) trodAll_mk0)) (fun _ _=>rfl) rfl
    hg (ok_one zf rfl (okWide_bool_mk Tryz.underlying4 _))⟩
theorem over:Rows.LinesPlaySaid :=
  OpenClaim.holds_of_wide 3 Tryz.f3 rfl rfl rfl rfl rfl rfl rfl ⟨rfl,rfl,rfl,rfl,rfl⟩ rfl rfl rfl rfl rfl zf Tryz.func3 zf
    (of_decide_eq_true zf) (by unfold Func.isWrapper;first|(rw [if_pos (by decide +kernel)];kernel_rfl)|(rw [if_neg (by decide +kernel)];exact ⟨rfl,rfl⟩))
    (fun os started H enc _=>lifted os started H enc)
theorem proved:Rows.LinesPlayCardSaid :=
  Claim7.holds_tied_plain_at .later [] [.data, .data, .data, .sentinel, .sentinel] true (true, "7b5cd880a4e576344aefb646a3c189c04094caf56d7fc712c9b74a26eccc1d40") true
    over (fun _ h=>by cases h) zf (fun _ h=>by cases h) linesPlay_row_tie rfl ⟨rfl,rfl⟩ zf rfl
    (fun f fn hf hfn=>by
      obtain rfl : f = 3 := Option.some.inj ((show Tryz.prog.funcNamed "quillpen/quillpenlaw30.LinesPlay" = some 3 by kernel_rfl).symm.trans hf) |>.symm
      obtain rfl:fn=Tryz.f3:=(Option.some.inj (Tryz.func3.symm.trans hfn)).symm
      exact ⟨by kernel_rfl,fun j t ht=>by
        rw [Tryz.params3] at ht
        have hm:t∈[22]:=by have:=Array.mem_of_getElem? ht;simp at this ⊢;omega
        have hall:([22].all fun u=>!Tryz.prog.wantsStandIn u)=true:=zf
        exact (show Tryz.prog.wantsStandIn t=false by simpa using List.all_eq_true.1 hall t hm)⟩)
    zf
end Go.Proofs.YtllanbmpacgigaaGreatDoor.linesPlay
