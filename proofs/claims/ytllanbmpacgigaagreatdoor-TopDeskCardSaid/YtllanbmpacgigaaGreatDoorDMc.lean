/- Texts of the proof, joined. -/
import Derived.Below
import Derived.ChangeSame
import Derived.ProofKit
import Derived.OpenShut
import Derived.ShutString
import Derived.Test.YtllanbmpacgigaaGreatDoorProg
import Derived.Deep.Slices
import Derived.ChangeArms
import Derived.Carry
import Derived.Orders
import Derived.StillTail
import Derived.Deep.Quiet
import Derived.Lib.SliceRun
import Derived.Lib.Builder
import Derived.Lib.UnsafeStr
import Derived.Laws.Externs
import Derived.LaidEql
import Derived.Lib.Bytealg
import Derived.Lib.ItoaNum
import Derived.WalkSmall
import Derived.Shelf.Strconv.Itoa4
import Derived.Lib.ItoaLen
import Derived.LaidSub
import Derived.MakeChecks
import Derived.Lib.LaidTab
import Derived.Test.YtllanbmpacgigaaGreatDoorDMb
namespace Go.Proofs.YtllanbmpacgigaaGreatDoor
open Nat renaming reduceAdd→zq1,reduceLeDiff→zq2,reduceEqDiff→zq3,reduceLT→zq4
open Int renaming reduceToNat→zq5
set_option linter.unusedSimpArgs false
set_option linter.unusedVariables false
open Go.RowKit Go.WideShapes Go.ChangeShapes
section
variable {H:Type} {enc:TypeId×Value→H} {P:Program}
theorem post_of_below {f:Func} {s:ChangeSpec} {apart fresh handsOn again:Bool} {W W':World} {args:Array Value} {v:Value} {ds gs:List (DataW H)} {before pa pv:List MemPlace}
    (hW:DataW.Whole enc P f.params.toList s.vars apart W args.toList ds gs before)
    (hres:∀ (b:Nat) (sp:Nat→Bool) (hd:Bool),DataW.TrodAll enc P W' b sp hd f.resultTypes.toList (v.resultList f.resultTypes.size) (s.fn H (ds++gs)).results [])
    (hargs:∀ sp:Nat→Bool,(∀ p∈before,sp p.block=true)→DataW.TrodAll enc P W' 0 sp true f.params.toList args.toList (s.fn H (ds++gs)).args pa)
    (hvars:∀ sp:Nat→Bool,(∀ p∈before,sp p.block=true)→DataW.TrodVars enc P W' sp s.vars (s.fn H (ds++gs)).vars pv)
    (hps:before=pa++pv) (hb:Below W.heap.size W W')
    (hok:∀ (j:Nat) (t:TypeId) (r:Value),f.resultTypes[j]?=some t→(v.resultList f.resultTypes.size)[j]?=some r→Value.okWide P W' .any 0 t r) :
    s.post enc P f apart fresh handsOn again W args v W':=by
  have hlt:∀ p∈before,p.block < W.heap.size:=fun p hp=>hW.lt p hp
  have hold:∀ p∈before,(fun b=>decide (b < W.heap.size)) p.block=true:=fun p hp=>by simpa using hlt p hp
  refine ⟨ds,gs,before,[],pa,pv,hW,hres _ _ _,hargs _ hold,hvars _ hold,World.keptBut_mono (fun p hp=>⟨hp,?_⟩) (hb.frame (·∈before)),fun _=>?_⟩
  · rw [hps,List.mem_append] at hp
    exact Or.inr hp
  · obtain ⟨_,_,_,_,_,hz,hn⟩:=hW
    refine ⟨hok,_,_,([]++pa)++pv,⟨[]++pa,pv,trodAll_append (hargs _ (fun _ _=>rfl)) (hres _ _ _),hvars _ (fun _ _=>rfl),rfl,?_,?_⟩,?_⟩
    · intro b off hp
      have hin:MemPlace.cell b off∈before:=by rw [hps];simpa using hp
      rw [hb.frozen (hlt _ hin)]
      exact hz b off hin
    · intro ha
      have:=hn ha
      rw [hps] at this
      simpa using this
    · intro p hp _
      rw [hps]
      simpa using hp
end
theorem len_wf {a:ByteArray} (h:a.size≤maxLen):a.data.toList.length≤9223372036854775807:=h
theorem walk_of {P:Program} {f:Nat} {args:Array Value} {w:World} {X:Value} (h:Pu P f args w X):Calls P f args w fun e w'=>e=.returned X∧Below w.heap.size w w':=by
  exact Calls.mono h fun e w' ⟨v,he,hv,hx⟩=>⟨by rw [he,hv],hx⟩
end Go.Proofs.YtllanbmpacgigaaGreatDoor
namespace Go.Proofs.YtllanbmpacgigaaGreatDoor
open Nat renaming reduceAdd→zq1,reduceLeDiff→zq2,reduceEqDiff→zq3,reduceLT→zq4
open Int renaming reduceToNat→zq5
set_option linter.unusedSimpArgs false
set_option linter.unusedVariables false
open Go.RowKit
variable {D:List Deferred}
def RV (P:Program) (ρ:Fr) (w:World):ResultVar→Value→Prop
  | .tmp t,v=>ρ t=v
  | .cell s t,v=>∃ q,ρ s=.pointer (some q)∧(loadVar t q).run P w=.ok v w
section
variable {P:Program} {fn:Func} {n:Nat} {ρ:Fr} {w:World} {r:List MI} {R:Value→World→Prop} {r1 r2 r3 r4:ResultVar} {v1 v2 v3 v4:Value}
theorem RV.tmp {t:Nat}:RV P ρ w (.tmp t) (ρ t):=rfl
theorem RV.agg {s t g bt:Nat} {xs:List Value} (hs:ρ s=.pointer (some ⟨g,0,none⟩)) (hb:Blk w g bt xs.toArray) (ht:aggN P t=some (some xs.length)):RV P ρ w (.cell s t) (.agg xs.toArray):=by
  obtain ⟨h1,j,h2,h3⟩:=run_isAgg_some (w:=w) ht
  have hl:(loadCells ⟨g,0,none⟩ xs.length).run P w=.ok xs.toArray w:=run_loadCells_list w _ xs fun j v hv=>by rw [add_blk,hb.cell];simpa using hv
  exact ⟨_,hs,by simp [loadVar,h1,sizeOf,typeInfo,h2,h3,hl]⟩
theorem RV.one {s t g bt:Nat} {x:Value} (hs:ρ s=.pointer (some ⟨g,0,none⟩)) (hb:Blk w g bt [x].toArray) (ht:aggN P t=some none):RV P ρ w (.cell s t) x:=by
  have h1:(isAgg t).run P w=.ok false w:=by
    unfold aggN at ht
    cases hu:P.underlying t with
    | none=>simp [hu] at ht
    | some d=>cases hi:P.info? t<;>cases d<;>simp [hu,hi] at ht<;>simp [isAgg,run_underlying hu]
  exact ⟨_,hs,by simp [loadVar,h1,hb.cell]⟩
def resF (tmps:Array Value):ResultVar→Sem Value
  | .tmp t=>pure (tmps.getD t undef)
  | .cell s t=>do loadVar t (←asAddr (tmps.getD s undef))
theorem results_eq (fn:Func) (tmps:Array Value):results fn tmps=(do let vs ←fn.results.mapM (resF tmps);pure (if h:vs.size=1 then vs[0] else .tuple vs)):=by
  unfold results
  congr 2
theorem rv_run {a:Act} (hr:Rel D n a ρ) (h:RV P ρ w r1 v1):(resF a.tmps r1).run P w=.ok v1 w:=by
  cases r1 with
  | tmp t=>simp only [resF,hr.2.2];simp only [RV] at h;rw [h];rfl
  | cell s t =>
    obtain ⟨q,h1,h2⟩:=h
    simp only [resF,hr.2.2,h1,asAddr,Sem.run_bind,Sem.run_pure,Result.andThen_ok,h2]
theorem G.rv1 (hf:fn.results=#[r1]) (h1:RV P ρ w r1 v1) (h:R v1 w):G P fn n (.c .ret :: r) R ρ w:=ret_of (fun a hr=>by
  have e1:=rv_run hr h1
  rw [results_eq,hf]
  simp [e1]) h
theorem G.rv2 (hf:fn.results=#[r1,r2]) (h1:RV P ρ w r1 v1) (h2:RV P ρ w r2 v2) (h:R (.tuple #[v1,v2]) w):G P fn n (.c .ret :: r) R ρ w:=ret_of (fun a hr=>by
  have e1:=rv_run hr h1
  have e2:=rv_run hr h2
  rw [results_eq,hf]
  simp [e1,e2]) h
theorem G.rv3 (hf:fn.results=#[r1,r2,r3]) (h1:RV P ρ w r1 v1) (h2:RV P ρ w r2 v2) (h3:RV P ρ w r3 v3) (h:R (.tuple #[v1,v2,v3]) w):G P fn n (.c .ret :: r) R ρ w:=ret_of (fun a hr=>by
  have e1:=rv_run hr h1
  have e2:=rv_run hr h2
  have e3:=rv_run hr h3
  rw [results_eq,hf]
  simp [e1,e2,e3]) h
end
theorem semK_val {P:Program} {s:Sem Value} {w w':World} {d:Option Nat} {ρ:Fr} {next:Fr→World→Prop} {v:Value} (h:s.run P w=.ok v w'):SemK P s w d ρ next=next (updO ρ d v) w' :=
  propext ⟨fun ⟨v',w'',h1,h2⟩=>by rw [h] at h1;cases h1;exact h2,fun h2=>⟨_,_,h,h2⟩⟩
section
variable {P:Program} {d:Option Nat} {ρ:Fr} {w:World} {next:Fr→World→Prop} {a b:Int} {k:IntKind} {ts:Array TypeId} {ty t t':TypeId} {x y:Operand}
theorem maxK:SemK P (Builtin.max_ ts ty #[.int k a,.int k b]) w d ρ next=next (updO ρ d (.int k (max a b))) w:=by
  have h:(Builtin.max_ ts ty #[.int k a,.int k b]).run P w=.ok (.int k (max a b)) w:=by
    simp only [Builtin.max_,List.foldlM_cons,List.foldlM_nil,Builtin.max2,Sem.run_bind,Sem.run_pure,Result.andThen_ok]
    congr 2
    simp only [Int.max_def]
    split<;>split<;>omega
  exact semK_val h
theorem minK:SemK P (Builtin.min_ ts ty #[.int k a,.int k b]) w d ρ next=next (updO ρ d (.int k (min a b))) w:=by
  have h:(Builtin.min_ ts ty #[.int k a,.int k b]).run P w=.ok (.int k (min a b)) w:=by
    simp only [Builtin.min_,List.foldlM_cons,List.foldlM_nil,Builtin.min2,Sem.run_bind,Sem.run_pure,Result.andThen_ok]
    congr 2
    simp only [Int.min_def]
    split<;>split<;>omega
  exact semK_val h
theorem mkfK {fn:Fn} {xs ys:Array Value}:SemK P (Instr.makeFunc fn xs ys) w d ρ next=next (updO ρ d (.func fn xs ys)) w:=semK_val (by simp [Instr.makeFunc])
def isNil:Value→Bool
  | .slice none _ _|.map none|.pointer none|.nilFunc=>true
  | _=>false
theorem eq_nilS {v:Value} {e:TypeId} (hu:P.underlying t=some (.slice e)) (hv:isL v=True):(Op.equal t v (.slice none 0 0)).run P w=.ok (isNil v) w:=by
  cases v<;>simp [isL] at hv
  rename_i a n c
  have e0:∀ dd,(Op.equalIn (dd+1) t (.slice a n c) (.slice none 0 0)).run P w=.ok (isNil (.slice a n c)) w:=fun dd=>by
    cases a<;>simp [Op.equalIn,run_underlying hu,isNil]
  simpa [Op.equal,Op.maxDepth] using e0 9999
theorem eq_nilP {p:Option Addr} {e:TypeId} (hu:P.underlying t=some (.pointer e)):(Op.equal t (.pointer p) (.pointer none)).run P w=.ok (isNil (.pointer p)) w:=by
  have e0:∀ dd,(Op.equalIn (dd+1) t (.pointer p) (.pointer none)).run P w=.ok (isNil (.pointer p)) w:=fun dd=>by
    cases p<;>simp [Op.equalIn,run_underlying hu,isNil]
  simpa [Op.equal,Op.maxDepth] using e0 9999
theorem nilS_e {v:Value} {e:TypeId} {sz bt:Nat} {zs:List Value} (hu:SlT P t e sz bt zs) (hv:isL v=True) (h:next (updO ρ d (.bool (isNil v))) w):SemK P (do eqGuard .eql t x y v (.slice none 0 0);binOp .eql t v (.slice none 0 0)) w d ρ next:=by
  have h1:=eq_nilS (w:=w) hu.u hv
  cases v<;>simp [isL] at hv
  exact ⟨_,w,by simp [eqGuard,binOp,h1],h⟩
theorem nilS_n {v:Value} {e:TypeId} {sz bt:Nat} {zs:List Value} (hu:SlT P t e sz bt zs) (hv:isL v=True) (h:next (updO ρ d (.bool (!(isNil v)))) w):SemK P (do eqGuard .neq t x y v (.slice none 0 0);binOp .neq t v (.slice none 0 0)) w d ρ next:=by
  have h1:=eq_nilS (w:=w) hu.u hv
  cases v<;>simp [isL] at hv
  exact ⟨_,w,by simp [eqGuard,binOp,h1],h⟩
theorem nilP_e {p:Option Addr} {e:TypeId} (hu:PtT P t e) (h:next (updO ρ d (.bool (isNil (.pointer p)))) w):SemK P (do eqGuard .eql t x y (.pointer p) (.pointer none);binOp .eql t (.pointer p) (.pointer none)) w d ρ next :=
  ⟨_,w,by simp [eqGuard,binOp,eq_nilP hu.u],h⟩
theorem nilP_n {p:Option Addr} {e:TypeId} (hu:PtT P t e) (h:next (updO ρ d (.bool (!(isNil (.pointer p))))) w):SemK P (do eqGuard .neq t x y (.pointer p) (.pointer none);binOp .neq t (.pointer p) (.pointer none)) w d ρ next :=
  ⟨_,w,by simp [eqGuard,binOp,eq_nilP hu.u],h⟩
theorem isNil_p {a:Addr}:isNil (.pointer (some a))=false:=rfl
theorem isNil_pn:isNil (.pointer none)=true:=rfl
theorem isNil_sn {n c:Nat}:isNil (.slice none n c)=true:=rfl
theorem i64_add (h:-9223372036854775808≤a+b∧a+b≤9223372036854775807):IntKind.i64.wrap (a+b)=a+b:=IntWalk.i64_in _ h
theorem i64_sub (h:-9223372036854775808≤a - b∧a - b≤9223372036854775807):IntKind.i64.wrap (a - b)=a - b:=IntWalk.i64_in _ h
theorem i64_id (h:-9223372036854775808≤a∧a≤9223372036854775807):IntKind.i64.wrap a=a:=IntWalk.i64_in _ h
theorem u8_id (h:0≤a∧a≤255):IntKind.u8.wrap a=a:=IntWalk.u8_in _ h
end
section
variable {α:Type} {w:World} {e:Enc α} {v:Value} {xs:List α} {k k':IntKind} {a b:Int} {n:Nat}
theorem Rd.slh (h:Rd w e v xs) (hs:e.sz=n) (hb:0≤b∧b≤(xs.length:Int)):Rd w e (slVV n none (some (.int k b)) v) (xs.take b.toNat):=by
  obtain ⟨p,cap,rfl,h2,h3,h4,h5⟩:=h
  have hl:(xs.take b.toNat).length=b.toNat:=by simp;omega
  refine ⟨if cap=0 then p else p.map (·.add 0),cap,?_,by omega,by omega,fun u hu=>h4 u ?_,fun h0=>?_⟩
  · simp [slVV,loN,hiN,hl]
  · obtain ⟨x,hx,hu⟩:=List.mem_flatMap.1 hu
    exact List.mem_flatMap.2 ⟨x,List.mem_of_mem_take hx,hu⟩
  · obtain ⟨a,ha,hc⟩:=h5 (by omega)
    refine ⟨a,by simp [ha,add_0],fun j u hj=>hc j u ?_⟩
    have e1:xs=xs.take b.toNat++xs.drop b.toNat:=(List.take_append_drop _ xs).symm
    rw [e1,List.flatMap_append,List.getElem?_append_left]
    · exact hj
    · rcases Nat.lt_or_ge j ((xs.take b.toNat).flatMap e.f).length with q|q
      · exact q
      · rw [List.getElem?_eq_none q] at hj;cases hj
theorem okSlV_h (h:Rd w e v xs) (hb:0≤b∧b≤(xs.length:Int)):okSlV none (some (.int k b)) v=True:=by
  obtain ⟨p,cap,rfl,h2,_⟩:=h
  simp only [okSlV,okI,loN,hiN,eq_iff_iff,iff_true,true_and]
  omega
theorem okSlV_l (h:Rd w e v xs) (hb:0≤a∧a≤(xs.length:Int)):okSlV (some (.int k a)) none v=True:=by
  obtain ⟨p,cap,rfl,h2,_⟩:=h
  simp only [okSlV,okI,loN,hiN,eq_iff_iff,iff_true,true_and]
  omega
end
theorem okNck_p {a:Addr}:okNck (.pointer (some a))=True:=rfl
theorem mget_s {β:Type} {enc:β→Value} {z:Value} {b:β}:mget enc z (some b)=enc b:=rfl
theorem mget_n {β:Type} {enc:β→Value} {z:Value}:mget enc z none=z:=rfl
attribute [push_cast] O_adA Q_adA okAdA_p adAV_p beq_self_eq_true bne_self_eq_false eq_self okNck_p mget_s mget_n Option.isSome_some Option.isSome_none O_nil O_gt O_call O_mv O_pick O_bin O_eqb O_eqA O_un O_cvi O_cvs O_b2s O_len O_lenS O_idxS O_adr O_ld O_fad O_fld O_ext O_slS O_slV O_nck O_bld Q_nil Q_gt Q_call Q_mv Q_pick Q_bin Q_eqb Q_eqA Q_un Q_cvi Q_cvs Q_b2s Q_len Q_lenS Q_idxS Q_adr Q_ld Q_fad Q_fld Q_ext Q_slS Q_slV Q_nck Q_bld upd_at decide_true decide_false Bool.and_true Bool.true_and Bool.and_false Bool.false_and Bool.or_false Bool.or_true Bool.true_or Bool.false_or Bool.and_self Bool.or_self Bool.false_eq_true frL ev updO okB_add okB_sub okB_mul okB_eql okB_neq okB_lss okB_leq okB_gtr okB_geq valB_add valB_sub valB_mul valB_quo valB_rem valB_eql valB_neq valB_lss valB_leq valB_gtr valB_geq okB_quo okB_rem okU_neg okU_not valU_neg valU_not eqbV_t eqbV_f cviV_i okE20 exV20 okE21 exV21 okE30 exV30 okE31 exV31 okE32 exV32 okE40 exV40 okE41 exV41 okE42 exV42 okE43 exV43 tdiv_pos tmod_pos isB_b isI_i Int.toNat_natCast Int.toNat_zero Int.toNat_one okB2s_1 okB2s_2 okB2s_3 okB2s_4 b2sV_1 b2sV_2 b2sV_3 b2sV_4 layL_n okLay_n evP_n evP_c List.set_cons_zero List.set_cons_succ okEqA_a okEqL_n okEqL_i okEqL_s okEqL_b eqAV_t eqAV_f eqL_n eqL_i eqL_s eqL_b isS_S lenV_S okIdxS_S idxSV_S okB_addS okB_eqlS okB_neqS okB_lssS okB_leqS okB_gtrS okB_geqS valB_addS valB_eqlS valB_neqS valB_lssS valB_leqS valB_gtrS valB_geqS okSlS_lh okSlS_l okSlS_h okSlS_n slSV_lh slSV_l slSV_h slSV_n pick_t pick_f pick_if Bool.true_eq_false wantF_b wantF_bf wantF_u Bool.not_true Bool.not_false brO_t brO_f brQ_t brQ_f not_true or_false false_and not_true_eq_false Option.map_some Option.map_none and_true true_and and_self List.map_cons List.map_nil List.size_toArray List.length_cons List.length_nil O_app O_cpy O_dlt O_max O_min O_clr O_len' O_cap O_mks O_mkm O_lkp O_box O_mkf O_men O_slc O_cnv O_idx O_ixa O_mkif O_tas O_mup O_est O_bop O_cv O_stK O_alcK O_bslK okFad_p fadV_p lenV_rd isL_rd okAdr_rd okLd1_rd ldV1_rd okLdN_rd ldVN_rd okFad_rd okLdF_rd ldVF_rd okLd_b ldV_b okLdN_b ldVN_b okFld_1 fldV_1 okFld_n fldV_n cells_agg setL_n setL_c layL_a okLay_a layL_o okLay_o eS_f eI_f eU_f eB_f eV_f List.getD_cons_zero List.getD_cons_succ List.drop_zero List.drop_succ_cons List.take_succ_cons List.take_zero List.take_nil List.drop_nil i64_add i64_sub i64_id u8_id maxK minK mkfK isNil_p isNil_pn isNil_sn okSlV_h okSlV_l
end Go.Proofs.YtllanbmpacgigaaGreatDoor
namespace Go.Proofs.YtllanbmpacgigaaGreatDoor
open Nat renaming reduceAdd→zq1,reduceLeDiff→zq2,reduceEqDiff→zq3,reduceLT→zq4
open Int renaming reduceToNat→zq5
set_option linter.unusedSimpArgs false
set_option linter.unusedVariables false
theorem pt15:PtT Tryz.prog 15 277:=⟨by kernel_rfl⟩
theorem pt16:PtT Tryz.prog 16 280:=⟨by kernel_rfl⟩
theorem pt17:PtT Tryz.prog 17 288:=⟨by kernel_rfl⟩
theorem sl22:SlT Tryz.prog 22 9 1 16 [(S [])]:=.of (by kernel_rfl)
theorem pt25:PtT Tryz.prog 25 55:=⟨by kernel_rfl⟩
theorem sl40:SlT Tryz.prog 40 22 1 24 [(.slice none 0 0)]:=.of (by kernel_rfl)
theorem mp52:MapT Tryz.prog 52 9 9 (S []):=.of (by kernel_rfl)
theorem sl53:SlT Tryz.prog 53 121 3 32 [(S []),(.int .i64 0),(.bool false)]:=.of (by kernel_rfl)
theorem pt64:PtT Tryz.prog 64 67:=⟨by kernel_rfl⟩
theorem sl65:SlT Tryz.prog 65 5 1 1 [(.int .u8 0)]:=.of (by kernel_rfl)
theorem pt90:PtT Tryz.prog 90 5:=⟨by kernel_rfl⟩
theorem pt101:PtT Tryz.prog 101 156:=⟨by kernel_rfl⟩
theorem sl112:SlT Tryz.prog 112 124 1 24 [(.slice none 0 0)]:=.of (by kernel_rfl)
theorem sl115:SlT Tryz.prog 115 126 3 56 [(.int .i64 0),(.slice none 0 0),(.slice none 0 0)]:=.of (by kernel_rfl)
theorem sl124:SlT Tryz.prog 124 129 4 40 [(.int .i64 0),(S []),(.int .i64 0),(.bool false)]:=.of (by kernel_rfl)
theorem pt135:PtT Tryz.prog 135 192:=⟨by kernel_rfl⟩
theorem mp149:MapT Tryz.prog 149 9 4 (.bool false):=.of (by kernel_rfl)
theorem sl154:SlT Tryz.prog 154 161 2 16 [(.int .i64 0),(.int .i64 0)]:=.of (by kernel_rfl)
theorem sl168:SlT Tryz.prog 168 3 1 8 [(.int .i64 0)]:=.of (by kernel_rfl)
theorem mp169:MapT Tryz.prog 169 9 124 (.slice none 0 0):=.of (by kernel_rfl)
theorem pt194:PtT Tryz.prog 194 139:=⟨by kernel_rfl⟩
theorem sl225:SlT Tryz.prog 225 179 4 24 [(.int .u8 0),(.int .u8 0),(.int .i64 0),(.int .i64 0)]:=.of (by kernel_rfl)
theorem pt240:PtT Tryz.prog 240 262:=⟨by kernel_rfl⟩
theorem sl247:SlT Tryz.prog 247 39 3 16 [(.int .u8 0),(.int .u8 0),(.int .i64 0)]:=.of (by kernel_rfl)
theorem pt257:PtT Tryz.prog 257 269:=⟨by kernel_rfl⟩
theorem mp260:MapT Tryz.prog 260 9 3 (.int .i64 0):=.of (by kernel_rfl)
theorem pt273:PtT Tryz.prog 273 275:=⟨by kernel_rfl⟩
end Go.Proofs.YtllanbmpacgigaaGreatDoor
namespace Go.Proofs.YtllanbmpacgigaaGreatDoor
open Nat renaming reduceAdd→zq1,reduceLeDiff→zq2,reduceEqDiff→zq3,reduceLT→zq4
open Int renaming reduceToNat→zq5
set_option linter.unusedSimpArgs false
set_option linter.unusedVariables false
open Go.RowKit Go.WideShapes Go.ChangeShapes
def Opens {α:Type} (P:Program) (t:TypeId) (E:Enc α) (good:α→Prop):Prop :=
  ∀ {H:Type} (enc:TypeId×Value→H) (w:World) (base:Nat) (sp:Nat→Bool) (hd:Bool) (fuel:Nat) (cs:List Value) (x:DataW H×List MemPlace),
    DataW.trod enc P w base sp hd fuel t cs=some x→∃ a,cs=E.f a∧good a∧∀ u∈cs,One u
section
variable {P:Program} {t e:TypeId}
theorem opens_str (h:P.underlying t=some .string):Opens P t eS (fun s=>s.length≤9223372036854775807):=by
  intro H enc w base sp hd fuel cs x hx
  obtain ⟨s,rfl,_,hs⟩:=DataW.trod_string h hx
  refine ⟨s.data.toList,by rw [S_eq];rfl,len_wf hs,?_⟩
  intro u hu
  simp at hu;subst hu;simp [One,Value.oneCell']
theorem field_trod {H:Type} {enc:TypeId×Value→H} {w:World} {base:Nat} {sp:Nat→Bool} {hd:Bool} {fuel:Nat} {cs:List Value} {x:DataW H×List MemPlace} {fs:Array Field} (ht:P.underlying t=some (.struct fs)) (hx:DataW.trod enc P w base sp hd fuel t cs=some x)
    (i:Nat) (f:Field) (hf:fs[i]?=some f):∃ fuel' y,DataW.trod enc P w base sp hd fuel' f.type ((cs.drop f.offset).take (P.cellsOf f.type))=some y:=by
  obtain ⟨xs,n,_,_,_,hl,hall⟩:=DataW.trod_struct ht hx
  have hi:i < xs.length:=by
    rw [hl]
    exact (Array.getElem?_eq_some_iff.1 hf).1
  exact ⟨n,xs[i],by rw [hall i f hf,List.getElem?_eq_getElem hi]⟩
theorem cells_rd {α:Type} {E:Enc α} {good:α→Prop} {H:Type} {enc:TypeId×Value→H} {w:World} {base:Nat} {sp:Nat→Bool} {hd:Bool} {fuel:Nat} {cs:List Value} {x:DataW H×List MemPlace} [Inhabited α]
    (ht:P.underlying t=some (.slice e)) (hE:Opens P e E good) (hsz:P.cellsOf e=E.sz) (hp:0 < E.sz) (h:DataW.trod enc P w base sp hd fuel t cs=some x) :
    ∃ v xs,cs=[v]∧Rd w E v xs∧(∀ a∈xs,good a)∧(∃ p n c,v=.slice p n c):=by
  rcases Go.Deep.open_slice ht h with ⟨rfl,_⟩|⟨a,len,cap,m,n,D,Pl,rfl,hb,hl,hm,hmm,_,hall⟩
  · exact ⟨_,[],rfl,⟨none,0,rfl,by simp,by simp,by simp,by simp⟩,by simp,_,_,_,rfl⟩
  · have hlm:len≤m:=by rw [hmm];split<;>omega
    have hex:∀ i,i < len→∃ y:α,good y∧(∀ u∈E.f y,One u)∧∀ j,j < E.sz→w.cell? ((a.add (i * E.sz)).add j)=(E.f y)[j]?:=by
      intro i hi
      obtain ⟨cs',h1,h2⟩:=hall i (by omega)
      obtain ⟨y,rfl,hg,ho⟩:=hE enc w base sp hd n cs' _ h2
      refine ⟨y,hg,ho,fun j hj=>?_⟩
      rw [hsz] at h1
      exact (World.cells?_some h1).2.2 j hj
    obtain ⟨f,hf⟩:=Go.Deep.choose_lt hex
    let xs:=(List.range len).map f
    have hxl:xs.length=len:=by simp [xs]
    have hxi:∀ i (hi:i < xs.length),xs[i]=f i:=by intro i hi;simp [xs]
    unfold maxLen at hm
    refine ⟨_,xs,rfl,⟨some a,cap,by rw [hxl],by omega,by omega,?_,fun h0=>⟨a,rfl,?_⟩⟩,?_,_,_,_,rfl⟩
    · intro u hu
      obtain ⟨y,hy,hu⟩:=List.mem_flatMap.1 hu
      obtain ⟨i,hi,rfl⟩:=List.mem_map.1 hy
      exact (hf i (List.mem_range.1 hi)).2.1 u hu
    · have hsp:a.spot=none:=by
        have h1:=(hf 0 (by omega)).2.2 0 hp
        rw [List.getElem?_eq_getElem (by rw [E.len];exact hp)] at h1
        have:=cell_spot h1
        simpa [Addr.add] using this
      intro j u hj
      have hjl:j < len * E.sz:=by
        rcases Nat.lt_or_ge j (len * E.sz) with q|q
        · exact q
        · rw [List.getElem?_eq_none (by rw [flat_len,hxl];exact q)] at hj;cases hj
      have hd':j / E.sz < len:=Nat.div_lt_of_lt_mul (by rw [Nat.mul_comm];exact hjl)
      have hm':j % E.sz < E.sz:=Nat.mod_lt _ hp
      have he:j=(j / E.sz) * E.sz+j % E.sz:=by rw [Nat.mul_comm];exact (Nat.div_add_mod j E.sz).symm
      have h2:=flat_at E xs (j / E.sz) (j % E.sz) (by omega) hm'
      rw [←he,hj,hxi] at h2
      have h3:=(hf (j / E.sz) hd').2.2 (j % E.sz) hm'
      rw [add_add _ _ _ hsp,←he,←h2] at h3
      exact h3
    · intro y hy
      obtain ⟨i,hi,rfl⟩:=List.mem_map.1 hy
      exact (hf i (List.mem_range.1 hi)).1
def flatTs (P:Program) (t:TypeId):Option (List TypeId) :=
  match P.underlying t with
  | some (.struct fs)=>if fs.toList.map (·.offset)=List.range fs.size∧fs.toList.all (fun f=>P.cellsOf f.type == 1)=true∧P.cellsOf t=fs.size then some (fs.toList.map (·.type)) else none
  | _=>none
theorem flat_trod {H:Type} {enc:TypeId×Value→H} {w:World} {base:Nat} {sp:Nat→Bool} {hd:Bool} {fuel:Nat} {cs:List Value} {x:DataW H×List MemPlace} {ts:List TypeId} (h:flatTs P t=some ts) (hx:DataW.trod enc P w base sp hd fuel t cs=some x) :
    cs.length=ts.length∧∀ i (hi:i < ts.length),∃ fuel' y,DataW.trod enc P w base sp hd fuel' ts[i] [cs.getD i undef]=some y:=by
  unfold flatTs at h
  split at h
  · rename_i fs hu
    split at h
    · rename_i hc
      simp at h;subst h
      obtain ⟨h1,h2,h3⟩:=hc
      obtain ⟨_,_,_,_,hlen,_,_⟩:=DataW.trod_struct hu hx
      have hl:cs.length=fs.size:=by rw [hlen,h3]
      refine ⟨by simp [hl],fun i hi=>?_⟩
      have hi':i < fs.size:=by simpa using hi
      obtain ⟨fuel',y,hy⟩:=field_trod hu hx i fs[i] (Array.getElem?_eq_getElem hi')
      have ho:fs[i].offset=i:=by
        have:(fs.toList.map (·.offset))[i]?=(List.range fs.size)[i]?:=by rw [h1]
        rw [List.getElem?_map,List.getElem?_range hi'] at this
        simpa [hi'] using this
      have hc1:P.cellsOf fs[i].type=1:=by
        have:=List.all_eq_true.1 h2 fs[i] (by simp)
        simpa using this
      rw [ho,hc1] at hy
      refine ⟨fuel',y,?_⟩
      have he:(cs.drop i).take 1=[cs.getD i undef]:=by
        have hci:i < cs.length:=by omega
        rw [List.drop_eq_getElem_cons hci,List.take_succ_cons,List.take_zero,List.getD_eq_getElem?_getD,List.getElem?_eq_getElem hci]
        rfl
      rw [he] at hy
      simpa using hy
    · simp at h
  · simp at h
theorem flat_eV (l:List Value):l.flatMap eV.f=l:=by
  induction l with
  | nil=>rfl
  | cons x l ih=>rw [List.flatMap_cons,ih];rfl
theorem slice_val {H:Type} {enc:TypeId×Value→H} {w:World} {base:Nat} {sp:Nat→Bool} {hd:Bool} {r:Reach} {b0:Nat} {v v':Value} {d:DataW H} {ps:List MemPlace} (ht:P.underlying t=some (.slice e)) (hval:Value.okWide P w r b0 t v) (hc:v.cells.toList=[v']):v=v':=by
  unfold Value.okWide at hval
  rw [ht] at hval
  simp only [Cell.okWide,ht,Cell.ok] at hval
  cases v<;>simp_all [Value.cells]
def RdN {α:Type} (w:World) (e:Enc α) (v:Value) (t:List (List α)):Prop :=
  ∃ vs:List Value,Rd w eV v vs∧vs.length=t.length∧∀ i:Nat,(i:Int) < t.length→Rd w e (vs.getD i default) (t.getD i default)
theorem opens_slot {α:Type} {E:Enc α} {good:α→Prop} {q:TypeId} (ht:P.underlying t=some (.slice e)) (hq:P.underlying e=some (.slice q)) (hE:Opens P q E good) (hsz:P.cellsOf q=E.sz) (hp:0 < E.sz) (h1:P.cellsOf e=1) [Inhabited α]
    {H:Type} {enc:TypeId×Value→H} {w:World} {base:Nat} {sp:Nat→Bool} {hd:Bool} {r:Reach} {b0:Nat} {v:Value} {d:DataW H} {ps:List MemPlace} (hval:Value.okWide P w r b0 t v) (h:DataW.Trod enc P w base sp hd t v d ps) :
    ∃ xss,RdN w E v xss∧∀ xs∈xss,∀ a∈xs,good a:=by
  obtain ⟨fuel,h⟩:=h
  rcases Go.Deep.open_slice1 ht h1 h with ⟨hc,_⟩|⟨a,len,cap,m,n,V,D,Pl,hc,hb,hl,hm,hmm,_,hall⟩
  · have:=slice_val (d:=d) (ps:=ps) (enc:=enc) (base:=base) (sp:=sp) (hd:=hd) ht hval hc
    subst this
    exact ⟨[],⟨[],⟨none,0,rfl,by simp,by simp,by simp,by simp⟩,rfl,fun i hi=>by simp at hi;omega⟩,by simp⟩
  · have := slice_val (d:=d) (ps:=ps) (enc:=enc) (base:=base) (sp:=sp) (hd:=hd) ht hval hc
    subst this
    have hlm:len≤m:=by rw [hmm];split<;>omega
    have hex:∀ i,i < len→∃ xs:List α,Rd w E (V i) xs∧(∀ a∈xs,good a)∧One (V i):=by
      intro i hi
      obtain ⟨_,h2⟩:=hall i (by omega)
      obtain ⟨v',xs,hv,h3,h4,p,n',c,rfl⟩:=cells_rd hq hE hsz hp h2
      simp at hv
      rw [hv]
      exact ⟨xs,h3,h4,by simp [One,Value.oneCell']⟩
    obtain ⟨f,hf⟩:=Go.Deep.choose_lt hex
    unfold maxLen at hm
    refine ⟨(List.range len).map f,⟨(List.range len).map V,⟨some a,cap,by simp,by simp;omega,by simp;omega,?_,fun h0=>⟨a,rfl,?_⟩⟩,by simp,fun i hi=>?_⟩,?_⟩
    · intro u hu
      obtain ⟨y,hy,hu⟩:=List.mem_flatMap.1 hu
      obtain ⟨i,hi,rfl⟩:=List.mem_map.1 hy
      simp [eV] at hu
      subst hu
      exact (hf i (List.mem_range.1 hi)).2.2
    · intro j u hj
      have e1:((List.range len).map V).flatMap eV.f=(List.range len).map V:=flat_eV _
      rw [e1] at hj
      have hjl:j < len:=by
        rcases Nat.lt_or_ge j len with q|q
        · exact q
        · rw [List.getElem?_eq_none (by simpa using q)] at hj;cases hj
      have h5:=(hall j (by omega)).1
      rw [List.getElem?_map,List.getElem?_range hjl] at hj
      simp at hj
      rw [←hj];exact h5
    · simp at hi
      have h6:=(hf i (by omega)).1
      have hi':i < len:=by omega
      simpa [hi'] using h6
    · intro xs hxs
      obtain ⟨i,hi,rfl⟩:=List.mem_map.1 hxs
      exact (hf i (List.mem_range.1 hi)).2.1
end
end Go.Proofs.YtllanbmpacgigaaGreatDoor
namespace Go.Proofs.YtllanbmpacgigaaGreatDoor
open Nat renaming reduceAdd→zq1,reduceLeDiff→zq2,reduceEqDiff→zq3,reduceLT→zq4
open Int renaming reduceToNat→zq5
set_option linter.unusedSimpArgs false
set_option linter.unusedVariables false
open Go.RowKit
variable {D:List Deferred}
def O1 (P:Program) (m:ML) (next:Fr→World→Prop) (ρ:Fr) (w:World):Prop:=if gF ρ m.g=true then OS P m.d m.m ρ w next else next (updO ρ m.d undef) w
def OT (P:Program) (K:Fr→World→Prop):DT→Fr→World→Prop
  | .leaf ops,ρ,w=>O P K ops ρ w
  | .br ops a b,ρ,w=>O P (fun ρ' w'=>OT P K a ρ' w'∧OT P K b ρ' w') ops ρ w
  | .tail l p,ρ,w=>Q P (fun ρ'=>∀ w',Ext w w'→O P K p ρ' w') w l ρ
  | .inv l ds,ρ,w=>∃ J:(Nat→Bool)→Fr→World→Prop,J (fun _=>false) ρ w ∧
      (∀ b i m d ρ' w',l[i]?=some m→ds[i]?=some d→b i=false→(∀ e∈d,b e=true)→J b ρ' w'→O1 P m (J (fun j=>if j=i then true else b j)) ρ' w') ∧
      (∀ b ρ' w',(∀ i d,ds[i]?=some d→b i=false→∃ e∈d,b e=false)→J b ρ' w'→K ρ' w')
section
variable {P:Program} {ops:Array Oper} {md:Region.Mode} {C:World→Prop}
def anyHead (P:Program) (md:Region.Mode) (ops:Array Oper) (C:World→Prop) (n:Nat) (L:Array Bool→Act→Prop):Nat→Array Bool→Act→Prop
  | 0,listed,a=>L listed a
  | f+1,listed,a=>Region.ready md ops listed≠[]∧∀ i∈Region.ready md ops listed,i < n∧qOp P ops C i (anyHead P md ops C n L f (listed.setIfInBounds i true)) a
theorem any_of_head {n g:Nat} {L:Array Bool→Act→Prop} {R:Exit→Act→World→Prop} (hL:∀ listed a w,C w→L listed a→wpAny P md ops R g listed a w) :
    ∀ (f:Nat) (listed:Array Bool) (a:Act) (w:World),C w→anyHead P md ops C n L f listed a→wpAny P md ops R (f+g) listed a w
  | 0,listed,a,w,hw,h=>by rw [Nat.zero_add];exact hL _ _ _ hw h
  | f+1,listed,a,w,hw,h=>by
    rw [show f+1+g=(f+g)+1 by omega]
    exact ⟨fun h0=>absurd h0 h.1,fun i hi=>wpOp_of_qOp hw (fun a' w' hw' h'=>any_of_head hL f _ a' w' hw' h') (h.2 i hi).2⟩
theorem head_first {n i:Nat} {oi:Oper} {v:Value} {L:Array Bool→Act→Prop} (hi:ops[i]?=some oi) (hsel:∀ (j:Nat) (o:Oper) cs b,ops[j]?=some o→o.op≠.select cs b)
    (hs:Region.sinkB md ops n=true) (hc:Region.chainB md ops n=true) (hn:n < ops.size) (hin:i < n) (hdone:∀ listed a,L listed a→∀ j∈Region.ready md ops listed,n≤j) :
    ∀ (f:Nat) (listed:Array Bool) (a:Act),HeadInv md ops n listed →
      (∀ j oj,ops[j]?=some oj→j≠i→listed.getD j true=false→(∀ e∈oj.after,Region.binds md e=true→e.on≠i)→oi.apart ops oj=true) →
      i∈Region.ready md ops listed→YieldsIn P ops C oi v a→anyHead P md ops C n L f (listed.setIfInBounds i true) (a.put oi.dst v)→anyHead P md ops C n L (f+1) listed a:=by
  intro f
  induction f with
  | zero =>
    intro listed a inv _ hr hy H
    have hun:=(mem_ready.1 hr).1
    refine ⟨fun h=>(by rw [h] at hr;cases hr),fun j hj=>?_⟩
    have hjn:j < n:=(Nat.lt_or_ge j n).resolve_right fun h=>tail_waits hs hc hn inv _ i rfl hin hun j h hj
    refine ⟨hjn,?_⟩
    by_cases hji:j=i
    · subst hji;exact hy.qOp hi H
    · have:=hdone _ _ H j (ready_mono hj hji)
      omega
  | succ f ih =>
    intro listed a inv hfree hr hy H
    have hun:=(mem_ready.1 hr).1
    refine ⟨fun h=>(by rw [h] at hr;cases hr),fun j hj=>?_⟩
    have hjn:j < n:=(Nat.lt_or_ge j n).resolve_right fun h=>tail_waits hs hc hn inv _ i rfl hin hun j h hj
    refine ⟨hjn,?_⟩
    by_cases hji:j=i
    · subst hji;exact hy.qOp hi H
    · have h1:=(H.2 j (ready_mono hj hji)).2
      obtain ⟨hjun,oj,hoj,hall⟩:=mem_ready.1 hj
      have hnot:∀ e∈oj.after,Region.binds md e=true→e.on≠i:=fun e he hb heq=>by
        have h1:=hall e he hb
        rw [heq,getD_both hun] at h1
        cases h1
      have h2:=qOp_put hoj (hfree j oj hoj hji hjun hnot) (fun cs b=>hsel i oi cs b hi) (fun cs b=>hsel j oj cs b hoj) hy h1
      refine qOp_mono (fun a' h3=>ih (listed.setIfInBounds j true) a' (inv.set hj hjn) (fun k ok hk hki hun hno=>?_) (ready_mono hr (Ne.symm hji)) h3.1 ?_) h2
      · refine hfree k ok hk hki ?_ hno
        by_cases hjk:j=k
        · subst hjk;exact hjun
        · rw [getD_set_ne true hjk] at hun;exact hun
      · rw [Array.setIfInBounds_comm _ _ hji]
        exact h3.2
theorem head_lex {n g:Nat} {Lq:Act→Prop} (hsel:Region.noSelect ops=true) (hs:Region.sinkB md ops n=true) (hc:Region.chainB md ops n=true) (hn:n < ops.size) :
    ∀ (l:List Oper) (k:Nat) (listed:Array Bool) (a:Act),(∀ j,j < l.length→l[j]?=ops[k+j]?)→k+l.length=n→HeadInv md ops n listed →
    Region.lexHead md ops g l.length k listed=true→wpQuiet P ops C Lq l a→anyHead P md ops C n (fun listed' a'=>Region.seqB md ops g n listed'=true∧Lq a') l.length listed a
  | [],k,listed,a,_,hk,_,hB,h=>by
    have:k=n:=by simpa using hk
    subst this
    exact ⟨by simpa [Region.lexHead] using hB,h⟩
  | o :: l,k,listed,a,hl,hk,inv,hB,h=>by
    have h0:ops[k]?=some o:=by simpa using (hl 0 (by simp)).symm
    simp only [List.length_cons,Region.lexHead,Bool.and_eq_true] at hB
    obtain ⟨⟨hr,hf⟩,hB'⟩:=hB
    have hkn:k < n:=by simp only [List.length_cons] at hk;omega
    have hr':k∈Region.ready md ops listed:=by simpa using hr
    have hst:qOp P ops C k (wpQuiet P ops C Lq l) a:=by unfold qOp;simp only [h0];exact h
    obtain ⟨v,hy,hK⟩:=yieldsIn_of_qOp h0 hst
    exact head_first h0 (Region.noSelect_spec hsel) hs hc hn hkn (fun listed' a' hL=>seqB_ready hL.1) l.length listed a inv (Region.free_spec h0 hf) hr' hy
      (head_lex hsel hs hc hn l (k+1) _ _ (fun j hj=>by have:=hl (j+1) (by simp;omega);simpa [Nat.add_assoc,Nat.add_comm 1 j] using this) (by simp only [List.length_cons] at hk;omega) (inv.set hr' hkn) hB' hK)
theorem wp_quiet_tail {id:Nat} {R:Exit→Act→World→Prop} {a:Act} {w:World} (n:Nat) (hm:P.follows .mixedOrders=true) (hB:Region.lexTailB .any ops n=true) (hC:C { w with drawn:=w.drawn+1 })
    (h:wpQuiet P ops C (fun a'=>∀ w',C w'→wpList P ops R (ops.toList.drop n) a' w') (ops.toList.take n) a):(Code.region id ops true).wp P R a w:=by
  simp only [Region.lexTailB,Bool.and_eq_true,decide_eq_true_eq] at hB
  obtain ⟨⟨⟨⟨hsel,hn⟩,hs⟩,hc⟩,hlex⟩:=hB
  have hn':n < ops.toList.length:=by simpa using hn
  have htl:(ops.toList.take n).length=n:=by rw [List.length_take];omega
  have hdl:(ops.toList.drop n).length=ops.size - n:=by simp
  have inv0:HeadInv .any ops n (Array.replicate ops.size false) :=
    ⟨by simp,fun j oj _ hl=>(by rw [getD_replicate_false] at hl;cases hl),fun t _ ht=>getD_in (by simpa using ht) (getD_replicate_false _ _)⟩
  have H:=head_lex (md:=.any) (g:=ops.size - n) hsel hs hc hn (ops.toList.take n) 0 _ a (fun j hj=>by
    have hj':j < n:=by rw [htl] at hj;exact hj
    rw [List.getElem?_take,if_pos hj'];simp) (by simpa using htl) inv0 (by rw [htl];exact hlex) h
  refine wp_region_any hm ?_
  have:=any_of_head (R:=R) (g:=ops.size - n) (fun listed a' w' hw' hL=>by
    have:=wpAny_of_seq (md:=.any) (Q':=R) (ops.toList.drop n) n listed a' w' (fun j=>by simp [List.getElem?_drop]) (by rw [hdl];exact hL.1) (hL.2 w' hw')
    rwa [hdl] at this) _ _ _ _ hC H
  rw [htl,show n+(ops.size - n)=ops.size by omega] at this
  exact this
end
section
variable {P:Program} {K:Fr→World→Prop} {ρ:Fr} {w:World} {n:Nat}
theorem OT_leaf {ops:List ML} (h:O P K ops ρ w):OT P K (.leaf ops) ρ w:=h
theorem OT_br {ops:List ML} {a b:DT} (h:∀ K2:Fr→World→Prop,(∀ ρ w,OT P K a ρ w→OT P K b ρ w→K2 ρ w)→O P K2 ops ρ w):OT P K (.br ops a b) ρ w:=h _ fun _ _ h1 h2=>⟨h1,h2⟩
theorem OT_cons {m:ML} {t:DT}:OT P K (t.cons m) ρ w↔O1 P m (OT P K t) ρ w:=by
  cases t with
  | leaf _=>exact Iff.rfl
  | br _ _ _=>exact Iff.rfl
  | tail l p=>simp only [DT.cons,OT,and_self];exact Iff.rfl
  | inv l p=>simp only [DT.cons,OT,and_self];exact Iff.rfl
theorem OT_tail {l p:List ML} (h:∀ K2:Fr→Prop,(∀ ρ',(∀ w',Ext w w'→O P K p ρ' w')→K2 ρ')→Q P K2 w l ρ):OT P K (.tail l p) ρ w:=h _ fun _ h=>h
theorem ready_nil {ops:Array Oper} {listed:Array Bool} (h:(Region.ready .any ops listed).isEmpty=true):Region.ready .any ops listed=[]:=by simpa using h
theorem O1_wpOp {ops:Array Oper} {i:Nat} {o:Oper} {a:Act} {next:Fr→World→Prop} {Q:Exit→Act→World→Prop} (hi:ops[i]?=some o) (ho:okOp n ops o=true) (hr:Rel D n a ρ) (h:O1 P (cop P ops o) next ρ w) :
    wpOp P ops Q i (fun a' w'=>∃ ρ',Rel D n a' ρ'∧next ρ' w') a w:=by
  have hd:∀ k,o.dst=some k→k < n:=by
    intro k hk
    simp only [okOp,hk,Bool.and_eq_true,decide_eq_true_eq] at ho
    exact ho.1
  have hw:=wanted_eq (P:=P) hr ops o ho
  unfold wpOp
  simp only [hi]
  rw [hw]
  unfold O1 at h
  by_cases hg:gF ρ (cop P ops o).g=true
  · rw [if_pos hg] at h
    rw [if_pos hg]
    left
    exact OS_sound o next a _ hr hd h
  · rw [if_neg hg] at h
    rw [if_neg hg]
    exact ⟨_,hr.put _ _ hd,h⟩
theorem fork_all {f:Nat→Option DT}:∀ {rs:List Nat} {t:DT},DT.fork f rs=some t→OT P K t ρ w→∀ i∈rs,∃ t',f i=some t'∧OT P K t' ρ w
  | [],t,h,_=>by simp [DT.fork] at h
  | [j],t,h,ht=>by
    intro i hi
    simp at hi;subst hi
    exact ⟨t,h,ht⟩
  | j :: j2 :: r,t,h,ht=>by
    simp only [DT.fork] at h
    split at h
    · rename_i a b ha hb
      split at h
      · simp at h;subst h
        obtain ⟨h1,h2⟩:OT P K a ρ w∧OT P K b ρ w:=ht
        intro i hi
        rcases List.mem_cons.1 hi with rfl|hi
        · exact ⟨a,ha,h1⟩
        · exact fork_all hb h2 i hi
      · simp at h
    · simp at h
theorem buildT_sound {ops:Array Oper} (hall:∀ o∈ops.toList,okOp n ops o=true) (hsel:Region.noSelect ops=true) :
    ∀ (fuel:Nat) (listed:Array Bool) (t:DT) (ρ:Fr) (a:Act) (w:World),buildT P ops fuel listed=some t→Rel D n a ρ→OT P K t ρ w →
      wpAny P .any ops (fun e a' w'=>e=.normal∧∃ ρ',Rel D n a' ρ'∧K ρ' w') fuel listed a w:=by
  have hmem:∀ {i:Nat} {o:Oper},ops[i]?=some o→okOp n ops o=true:=fun h=>hall _ (Array.mem_toList_iff.2 (Array.mem_of_getElem? h))
  intro fuel
  induction fuel with
  | zero =>
    intro listed t ρ a w h hr ht
    simp only [buildT] at h
    split at h
    · rename_i he
      simp at h;subst h
      exact ⟨ready_nil he,rfl,ρ,hr,ht⟩
    · simp at h
  | succ fuel ih =>
    intro listed t ρ a w h hr ht
    simp only [buildT] at h
    split at h
    · rename_i he
      simp at h;subst h
      exact wpAny_done (ready_nil he) ⟨rfl,ρ,hr,ht⟩ _
    · rename_i hne
      split at h
      · rename_i i hf
        have h1:=List.find?_some hf
        have h2:=List.mem_of_find?_eq_some hf
        simp only [Bool.and_eq_true] at h1
        split at h
        · rename_i o hi
          rw [hi] at h1
          simp only [Option.map_eq_some_iff] at h
          obtain ⟨t',ht',rfl⟩:=h
          rw [OT_cons] at ht
          have ho:=hmem hi
          have hd:∀ k,o.dst=some k→k < n:=by
            intro k hk
            simp only [okOp,hk,Bool.and_eq_true,decide_eq_true_eq] at ho
            exact ho.1
          have hw:=wanted_eq (P:=P) hr ops o ho
          unfold O1 at ht
          by_cases hg:gF ρ (cop P ops o).g=true
          · rw [if_pos hg] at ht
            have hpure:pureM (cm P o)=true:=h1.2
            have hm:okM ρ w (cm P o)∧OT P K t' (updO ρ o.dst (vM ρ w (cm P o))) w:=by
              have e:OS P o.dst (cm P o) ρ w (OT P K t'):=ht
              have hwM:=(okM_pure (ρ:=ρ) (w:=w) hpure w).2.2
              revert e hwM hpure
              generalize cm P o=m
              intro hpure e hwM
              cases m<;>first|exact e|exact absurd hpure (by simp [pureM])
            refine wpAny_take (v:=vM ρ w (cm P o)) hi hsel h1.1 (by simpa using h2) (fun c a w hq=>by cases hq.1) (.inl ⟨by rw [hw];exact hg,fun w'=>?_⟩) (ih _ _ _ _ _ ht' (hr.put _ _ hd) hm.2)
            rw [hr.evalF]
            exact run_pure o hpure hm.1 w'
          · rw [if_neg hg] at ht
            exact wpAny_take (v:=undef) hi hsel h1.1 (by simpa using h2) (fun c a w hq=>by cases hq.1) (.inr ⟨by rw [hw];simpa using hg,rfl⟩) (ih _ _ _ _ _ ht' (hr.put _ _ hd) ht)
        · simp at h
      · refine wpAny_all rfl (fun e=>hne (by simp [e])) fun i hi=>?_
        obtain ⟨t',h1,h2⟩:=fork_all h ht i hi
        split at h1
        · rename_i o ho
          simp only [Option.map_eq_some_iff] at h1
          obtain ⟨t2,h3,rfl⟩:=h1
          rw [OT_cons] at h2
          refine wpOp_mono ?_ (O1_wpOp ho (hmem ho) hr h2)
          rintro a' w' ⟨ρ',hr',h4⟩
          exact ih _ _ _ _ _ h3 hr' h4
        · simp at h1
theorem isAlc_spec {ops:Array Oper} {o:Oper} (h:isAlc P ops o=true) (ho:okOp n ops o=true):(∃ t,o.op=.alloc t)∧o.guard=none∧(cop P ops o).g=none∧∃ t z,cm P o=.alc t z:=by
  unfold isAlc at h
  split at h
  · rename_i h1 h2 h3
    refine ⟨⟨_,h1⟩,?_,h2,_,_,h3⟩
    simp only [okOp,Bool.and_eq_true] at ho
    simp only [cop] at h2
    cases hg:o.guard with
    | none=>rfl
    | some p =>
      have h4:=ho.2
      simp only [hg] at h4
      obtain ⟨s,hs⟩:=Option.isSome_iff_exists.1 h4
      rw [hg,Option.bind_some,hs] at h2
      cases h2
  · cases h
theorem take_takeWhile {α:Type} (p:α→Bool):∀ l:List α,l.take (l.takeWhile p).length=l.takeWhile p
  | []=>rfl
  | x :: l=>by
    by_cases h:p x=true
    · rw [List.takeWhile_cons_of_pos h,List.length_cons,List.take_succ_cons,take_takeWhile p l]
    · rw [List.takeWhile_cons_of_neg h];rfl
theorem of_takeWhile {α:Type} {p:α→Bool} {x:α}:∀ {l:List α},x∈l.takeWhile p→p x=true
  | [],h=>by cases h
  | y :: l,h=>by
    by_cases hp:p y=true
    · rw [List.takeWhile_cons_of_pos hp] at h
      rcases List.mem_cons.1 h with rfl|h
      · exact hp
      · exact of_takeWhile h
    · rw [List.takeWhile_cons_of_neg hp] at h;cases h
theorem O_monoP {K K':Fr→World→Prop} (h:∀ ρ w,K ρ w→K' ρ w):∀ (l:List ML),(∀ m∈l,plainM m.m=true)→∀ ρ w,O P K l ρ w→O P K' l ρ w
  | [],_,ρ,w,ho=>h _ _ ho
  | ⟨g,d,m⟩ :: l,hp,ρ,w,ho=>by
    have hm:=hp ⟨g,d,m⟩ (by simp)
    have ih:=O_monoP h l fun x hx=>hp x (by simp [hx])
    unfold O at ho ⊢
    split
    · rename_i hg
      rw [if_pos hg] at ho
      revert ho hm
      cases m<;>intro hm ho<;>first|exact ⟨ho.1,ih _ _ ho.2⟩|exact absurd hm (by simp [plainM])
    · rename_i hg
      rw [if_neg hg] at ho
      exact ih _ _ ho
theorem treeX_sound {ops:Array Oper} {t:DT} {a:Act} (hall:∀ o∈ops.toList,okOp n ops o=true) (h:treeX P ops=some t) (hr:Rel D n a ρ) (ht:OT P K t ρ w) :
    wpAny P .any ops (fun e a' w'=>e=.normal∧∃ ρ',Rel D n a' ρ'∧K ρ' w') ops.size (Array.replicate ops.size false) a w:=by
  unfold treeX at h
  split at h
  · simp at h
  rename_i x _
  split at h
  · simp at h
  rename_i ox hox
  split at h
  · rename_i hB
    simp only [Bool.and_eq_true,decide_eq_true_eq] at hB
    obtain ⟨⟨⟨⟨⟨h1,h2⟩,h3⟩,h4⟩,h5⟩,h6⟩:=hB
    split at h
    · rename_i t1 t2 e1 e2
      simp only [Option.some.injEq] at h;subst h
      have hmem:∀ {i:Nat} {o:Oper},ops[i]?=some o→okOp n ops o=true:=fun h=>hall _ (Array.mem_toList_iff.2 (Array.mem_of_getElem? h))
      obtain ⟨⟨t',hop⟩,hg,hg2,tc,z,hm⟩:=isAlc_spec h2 (hmem hox)
      have hxs:x < ops.size:=(Array.getElem?_eq_some_iff.1 hox).1
      have hlen:(ops.toList.take (plainN P ops)).length=plainN P ops:=by rw [List.length_take,Array.length_toList];omega
      have hpl:∀ o∈ops.toList.take (plainN P ops),plainM (cm P o)=true:=fun o ho=>by
        rw [show ops.toList.take (plainN P ops)=ops.toList.takeWhile fun o=>plainM (cm P o) from take_takeWhile _ _] at ho
        exact of_takeWhile (p:=fun o=>plainM (cm P o)) ho
      have hLN:=listN_spec ops.size (plainN P ops) 0 (Array.replicate ops.size false)
      have hreadyN:∀ j∈Region.ready .any ops (listN ops.size (plainN P ops) 0 (Array.replicate ops.size false)),plainN P ops≤j:=fun j hj=>by
        have:=(mem_ready.1 hj).1
        rw [hLN.2] at this
        split at this
        · cases this
        · rename_i hc;simp only [Array.size_replicate] at hc;omega
      have hdx:∀ k,ox.dst=some k→k < n:=by
        intro k hk
        have ho:=hmem hox
        simp only [okOp,hk,Bool.and_eq_true,decide_eq_true_eq] at ho
        exact ho.1
      have hrun:∀ (a:Act),(execOp a.eval ox).run P w=.ok (.value (.pointer (some ⟨w.heap.size,0,none⟩))) (w.alloc (.cells z.toArray tc)):=fun a=>by
        have e:execOp a.eval ox=execOp (ev ρ) ox:=by unfold execOp;simp only [hop]
        rw [e]
        rcases run_cm (P:=P) (ρ:=ρ) (w:=w) ox (by rw [hm];trivial) with h7|⟨_,h7⟩
        · rw [h7,hm];rfl
        · rw [hm] at h7;exact absurd h7 (by simp [vM,undef])
      have hfin:=AU_any (P:=P) (ops:=ops) (w:=w) (wx:=w.alloc (.cells z.toArray tc)) (N:=plainN P ops) (x:=x) (dx:=ox.dst) (vx:=.pointer (some ⟨w.heap.size,0,none⟩))
        (LU:=fun l a=>l=listN ops.size (plainN P ops) 0 (Array.replicate ops.size false)∧∃ ρ,Rel D n a ρ∧OT P K t1 ρ w)
        (LF:=fun l a=>l=(listN ops.size (plainN P ops) 0 (Array.replicate ops.size false)).setIfInBounds x true∧∃ ρ,Rel D n a ρ∧OT P K t2 ρ (w.alloc (.cells z.toArray tc)))
        (R:=fun e a' w'=>e=.normal∧∃ ρ',Rel D n a' ρ'∧K ρ' w') (g:=ops.size - plainN P ops - 1)
        (fun K' a hK=>by
          unfold wpOp
          simp only [hox]
          rw [if_pos (by simp [Region.wanted,hg])]
          left
          unfold Oper.wp
          rw [hrun a,Oper.upon_value]
          exact hK)
        (fun l a hl=>by
          obtain ⟨rfl,ρ',hr',h8⟩:=hl
          have e:ops.size - plainN P ops - 1+1=ops.size - plainN P ops:=by omega
          rw [e]
          exact buildT_sound hall h1 _ _ _ _ _ _ e1 hr' h8)
        (fun l a hl=>by
          obtain ⟨rfl,ρ',hr',h8⟩:=hl
          exact buildT_sound hall h1 _ _ _ _ _ _ e2 hr' h8)
        (ops.toList.take (plainN P ops)).length (Array.replicate ops.size false) a
        (headU_lex ((Ext.refl w).alloc _) hox rfl hdx h1 h4 h5 h3 hreadyN
          (fun j hj=>by
            obtain ⟨hun,oj,hoj,hall'⟩:=mem_ready.1 hj
            have hjs:j < ops.size:=(Array.getElem?_eq_some_iff.1 hoj).1
            by_cases hjx:x=j
            · omega
            · rw [getD_set_ne true hjx,hLN.2] at hun
              split at hun
              · cases hun
              · rename_i hc;simp only [Array.size_replicate] at hc;omega)
          (ops.toList.take (plainN P ops)) 0 _ a ρ (fun j hj=>by
            rw [hlen] at hj
            rw [List.getElem?_take,if_pos hj,Nat.zero_add,Array.getElem?_toList]) (by rw [hlen,Nat.zero_add]) ⟨by simp,fun j oj _ hl=>(by rw [getD_replicate_false] at hl;cases hl),fun t' _ ht' _=>getD_in (by simpa using ht') (getD_replicate_false _ _)⟩ (getD_in (by simpa using hxs) (getD_replicate_false _ _)) (by rw [hlen];exact h6) (by rw [hlen])
          (fun o ho=>hpl o ho)
          (fun o ho=>hall o (List.mem_of_mem_take ho)) hr
          (O_monoP (fun ρ' w' ⟨g1,g2⟩ e=>by
            subst e
            refine ⟨g1,?_⟩
            rw [OT_cons] at g2
            unfold O1 at g2
            rw [if_pos (by rw [hg2];rfl)] at g2
            have e:(cop P ops ox).m=.alc tc z:=hm
            rw [e] at g2
            exact g2.2) _ (fun m hm=>by
              obtain ⟨o,ho,rfl⟩:=List.mem_map.1 hm
              exact hpl o ho) _ _ ht))
      have e:(ops.toList.take (plainN P ops)).length+(ops.size - plainN P ops - 1+1)=ops.size:=by rw [hlen];omega
      rw [e] at hfin
      exact hfin
    · simp at h
  · simp at h
theorem ready_inv {ops:Array Oper} {listed:Array Bool} {i:Nat} {o:Oper} (ho:ops[i]?=some o) (h1:listed.getD i true=false) (h2:∀ e∈depsOf o,listed.getD e false=true):i∈Region.ready .any ops listed :=
  mem_ready.2 ⟨h1,o,ho,fun e he hb=>h2 e.on (List.mem_map.2 ⟨e,List.mem_filter.2 ⟨Array.mem_toList_iff.2 he,hb⟩,rfl⟩)⟩
theorem inv_sound {ops:Array Oper} (hall:∀ o∈ops.toList,okOp n ops o=true) {J:(Nat→Bool)→Fr→World→Prop}
    (hs:∀ b i m d ρ' w',(ops.toList.map (cop P ops))[i]?=some m→(ops.toList.map depsOf)[i]?=some d→b i=false→(∀ e∈d,b e=true)→J b ρ' w'→O1 P m (J (fun j=>if j=i then true else b j)) ρ' w')
    (hf:∀ b ρ' w',(∀ i d,(ops.toList.map depsOf)[i]?=some d→b i=false→∃ e∈d,b e=false)→J b ρ' w'→K ρ' w') :
    ∀ (fuel:Nat) (listed:Array Bool) (ρ:Fr) (a:Act) (w:World),listed.size=ops.size→listed.toList.countP (fun x=>!x)≤fuel→Rel D n a ρ→J (fun j=>listed.getD j false) ρ w →
      wpAny P .any ops (fun e a' w'=>e=.normal∧∃ ρ',Rel D n a' ρ'∧K ρ' w') fuel listed a w:=by
  have hget:∀ {i:Nat} {o:Oper},ops[i]?=some o→(ops.toList.map (cop P ops))[i]?=some (cop P ops o)∧(ops.toList.map depsOf)[i]?=some (depsOf o):=fun {i o} h=>by
    have h2:ops.toList[i]?=some o:=by rw [Array.getElem?_toList];exact h
    rw [List.getElem?_map,List.getElem?_map,h2]
    exact ⟨rfl,rfl⟩
  have hfin:∀ (listed:Array Bool) (ρ:Fr) (w:World),listed.size=ops.size→Region.ready .any ops listed=[]→J (fun j=>listed.getD j false) ρ w→K ρ w:=by
    intro listed ρ w hsz h0 hj
    refine hf _ ρ w (fun i d hd hb=>?_) hj
    rw [List.getElem?_map,Option.map_eq_some_iff] at hd
    obtain ⟨o,ho,rfl⟩:=hd
    rw [Array.getElem?_toList] at ho
    have hi:i < ops.size:=(Array.getElem?_eq_some_iff.1 ho).1
    refine Classical.byContradiction fun hc=>?_
    have hm:=ready_inv (listed:=listed) ho (getD_in (by omega) hb) (fun e he=>by
      cases hx:listed.getD e false with
      | true=>rfl
      | false=>exact absurd ⟨e,he,hx⟩ hc)
    rw [h0] at hm
    cases hm
  intro fuel
  induction fuel with
  | zero =>
    intro listed ρ a w hsz hc hr hj
    have h0:Region.ready .any ops listed=[]:=by
      rw [List.eq_nil_iff_forall_not_mem]
      intro i hi
      obtain ⟨h1,o,ho,_⟩:=mem_ready.1 hi
      have hi2:i < listed.size:=by have:=(Array.getElem?_eq_some_iff.1 ho).1;omega
      have h3:=List.countP_eq_zero.1 (Nat.le_zero.1 hc) listed[i] (by simp)
      rw [Array.getD_eq_getD_getElem?,Array.getElem?_eq_getElem hi2] at h1
      simp at h1 h3
      rw [h1] at h3
      cases h3
    exact ⟨h0,rfl,ρ,hr,hfin listed ρ w hsz h0 hj⟩
  | succ fuel ih =>
    intro listed ρ a w hsz hc hr hj
    refine ⟨fun h0=>⟨rfl,ρ,hr,hfin listed ρ w hsz h0 hj⟩,fun i hi=>?_⟩
    obtain ⟨h1,o,ho,hd⟩:=mem_ready.1 hi
    have hi2:i < listed.size:=by have:=(Array.getElem?_eq_some_iff.1 ho).1;omega
    have h1':listed[i]=false:=by
      rw [Array.getD_eq_getD_getElem?,Array.getElem?_eq_getElem hi2] at h1
      simpa using h1
    obtain ⟨g1,g2⟩:=hget ho
    have h4:=hs _ i _ _ ρ w g1 g2 (by show listed.getD i false=false;rw [Array.getD_eq_getD_getElem?,Array.getElem?_eq_getElem hi2];simpa using h1') (fun e he=>by
      obtain ⟨e',he',rfl⟩:=List.mem_map.1 he
      obtain ⟨m1,m2⟩:=List.mem_filter.1 he'
      exact hd e' (Array.mem_toList_iff.1 m1) m2) hj
    refine wpOp_mono ?_ (O1_wpOp ho (hall _ (Array.mem_toList_iff.2 (Array.mem_of_getElem? ho))) hr h4)
    rintro a' w' ⟨ρ',hr',h5⟩
    refine ih _ ρ' a' w' (by simp [hsz]) ?_ hr' ?_
    · rw [Array.toList_setIfInBounds,List.countP_set (by simpa using hi2)]
      have h6:0 < listed.toList.countP (fun x=>!x):=List.countP_pos_iff.2 ⟨listed[i],by simp,by rw [h1'];rfl⟩
      have h7:listed.toList[i]'(by simpa using hi2)=false:=by rw [Array.getElem_toList];exact h1'
      rw [h7]
      simp only [Bool.not_false,Bool.not_true,if_true,Bool.false_eq_true,if_false]
      omega
    · have e:(fun j=>(listed.setIfInBounds i true).getD j false)=fun j=>if j=i then true else listed.getD j false:=by
        funext j
        by_cases hji:j=i
        · subst hji
          rw [if_pos rfl,Array.getD_eq_getD_getElem?]
          simp [hi2]
        · rw [if_neg hji,Array.getD_eq_getD_getElem?,Array.getD_eq_getD_getElem?,Array.getElem?_setIfInBounds_ne (Ne.symm hji)]
      rw [e]
      exact h5
theorem G.drt {fn:Func} {r:List MI} {R:Value→World→Prop} {ops:List ML} {t:DT} (hm:P.follows .mixedOrders=true)
    (h:∀ K:Fr→World→Prop,(∀ ρ w,G P fn n r R ρ w→K ρ w)→∀ wd,Ext w wd→OT P K t ρ wd):G P fn n (.c (.drg ops (some t)) :: r) R ρ w:=fun k hk=>by
  obtain ⟨x,k',rfl,hx,hk'⟩:=corr_c hk
  obtain ⟨id,os,rfl,hall,hlex,rfl,ht⟩:=conv_drg hx
  have hb : (Region.noSelect os=true∧buildT P os os.size (Array.replicate os.size false)=some t)∨tailOf P os=some t∨treeX P os=some t∨t=.inv (os.toList.map (cop P os)) (os.toList.map depsOf):=by
    unfold treeOf at ht
    split at ht
    · simp at ht
    · rename_i h0
      simp only [Bool.or_eq_true,not_or,Bool.not_eq_true,Bool.not_eq_false'] at h0
      replace h0:=h0.1
      split at ht
      · rename_i t' h1
        split at ht
        · simp at ht;subst ht;exact .inl ⟨h0.2,h1⟩
        · split at ht
          · rename_i x hx;simp at ht;subst ht;exact .inr (.inl hx)
          · split at ht
            · simp at ht;subst ht;exact .inl ⟨h0.2,h1⟩
            · simp at ht
      · split at ht
        · rename_i x hx;simp at ht;subst ht;exact .inr (.inl hx)
        · split at ht
          · rename_i x hx;simp at ht;subst ht;exact .inr (.inr (.inl hx))
          · split at ht
            · simp at ht
            · simp at ht;exact .inr (.inr (.inr ht))
  rcases hb with hb|hb|hb|hb
  · refine Run.region_wp fun a hr=>wp_region_any hm ?_
    have hdr:Ext w w.drew:=(Ext.refl w).drew
    have:=buildT_sound (K:=fun ρ w=>Run P fn n k' R ρ w) (fun o ho=>List.all_eq_true.1 hall o ho) hb.1 os.size (Array.replicate os.size false) t ρ a w.drew hb.2 hr (h _ (fun _ _ h=>h k' hk') w.drew hdr)
    exact this
  · unfold tailOf at hb
    split at hb
    · rename_i hB
      simp only [Option.some.injEq] at hb
      subst hb
      refine Run.region_wp fun a hr=>wp_quiet_tail (C:=Ext w) (headN P os) hm hB ((Ext.refl w).drew) ?_
      have hq:=h (fun ρ w=>Run P fn n k' R ρ w) (fun _ _ h=>h k' hk') w (Ext.refl w)
      have ha:∀ o∈os.toList,okOp n os o=true:=fun o ho=>List.all_eq_true.1 hall o ho
      have:=Q_wpQuiet (n:=n) (w:=w) (ops:=os) (os.toList.take (headN P os)) ρ a (fun o ho=>ha o (List.mem_of_mem_take ho)) hr hq
      refine wpQuiet_mono' ?_ _ _ this
      rintro a' ⟨ρ',h1,h2⟩ w' hw'
      exact O_wpList (n:=n) (ops:=os) (K:=fun ρ w=>Run P fn n k' R ρ w) (os.toList.drop (headN P os)) ρ' w' a' (fun o ho=>ha o (List.mem_of_mem_drop ho)) h1 (h2 w' hw')
    · simp at hb
  · refine Run.region_wp fun a hr=>wp_region_any hm ?_
    exact treeX_sound (K:=fun ρ w=>Run P fn n k' R ρ w) (fun o ho=>List.all_eq_true.1 hall o ho) hb hr (h _ (fun _ _ h=>h k' hk') w.drew ((Ext.refl w).drew))
  · refine Run.region_wp fun a hr=>wp_region_any hm ?_
    have hi:=h (fun ρ w=>Run P fn n k' R ρ w) (fun _ _ h=>h k' hk') w.drew ((Ext.refl w).drew)
    rw [hb] at hi
    obtain ⟨J,j0,js,jf⟩:=hi
    refine inv_sound (fun o ho=>List.all_eq_true.1 hall o ho) js jf _ _ ρ a w.drew (by simp) (Nat.le_trans List.countP_le_length (by simp)) hr ?_
    have e:(fun j=>(Array.replicate os.size false).getD j false)=fun _=>false:=by
      funext j
      rw [Array.getD_eq_getD_getElem?,Array.getElem?_replicate]
      split<;>rfl
    rw [e]
    exact j0
theorem zcq {P:Program} {next:Fr→Prop} {ρ:Fr} {w:World} {d:Option Nat} (f:Nat) {args:List Value} {X:Value} (h:∀ w',Ext w w'→Pu P f args.toArray w' X) (k:next (updO ρ d X)):CallQ P f args w d ρ next :=
  ⟨X,fun w' hw=>h w' hw,k⟩
end
end Go.Proofs.YtllanbmpacgigaaGreatDoor
namespace Go.Proofs.YtllanbmpacgigaaGreatDoor
open Nat renaming reduceAdd→zq1,reduceLeDiff→zq2,reduceEqDiff→zq3,reduceLT→zq4
open Int renaming reduceToNat→zq5
set_option linter.unusedSimpArgs false
set_option linter.unusedVariables false
open Go.RowKit
theorem hcs:(∀ (p:Prop) [Decidable p],(decide p=true)=p)∧(∀ (p:Prop) [Decidable p],(decide p=false)=¬ p)∧(∀ b:Bool,((!b)=true)=(b=false))∧(∀ b:Bool,((!b)=false)=(b=true))∧(!true)=false∧(!false)=true
    ∧ (∀ a b:Bool,((a && b)=true)=(a=true∧b=true))∧(∀ a b:Bool,((a || b)=true)=(a=true∨b=true))∧(∀ a b:Bool,((a && b)=false)=(a=false∨b=false))∧(∀ a b:Bool,((a || b)=false)=(a=false∧b=false))
    ∧ (∀ {α:Type} [BEq α] [LawfulBEq α] (a b:α),((a == b)=true)=(a=b))∧(∀ {α:Type} [BEq α] [LawfulBEq α] (a b:α),((a != b)=true)=¬ (a=b))∧(∀ {α:Type} [BEq α] [LawfulBEq α] (a b:α),((a == b)=false)=¬ (a=b))∧(∀ {α:Type} [BEq α] [LawfulBEq α] (a b:α),((a != b)=false)=(a=b))
    ∧ (∀ {α:Type} (a b:α),(a≠b)=¬ (a=b))∧(∀ a b:Int,(¬ a < b)=(b≤a))∧(∀ a b:Int,(¬ a≤b)=(b < a))∧(true=false)=False∧(false=true)=False∧(¬ True)=False∧(¬ False)=True :=
  ⟨fun p _=>decide_eq_true_eq,fun p _=>propext decide_eq_false_iff_not,fun b=>by cases b<;>simp,fun b=>by cases b<;>simp,rfl,rfl,fun a b=>by cases a<;>simp,fun a b=>by cases a<;>simp,fun a b=>by cases a<;>simp,fun a b=>by cases a<;>simp,
    fun a b=>propext beq_iff_eq,fun a b=>propext bne_iff_ne,fun a b=>propext beq_eq_false_iff_ne,fun a b=>propext bne_eq_false_iff_eq,fun a b=>rfl,fun a b=>propext Int.not_lt,fun a b=>propext Int.not_le,by simp,by simp,by simp,by simp⟩
theorem lens:(∀ {α:Type} (a:α) (l:List α),(a :: l).length=l.length+1)∧(∀ {α:Type},([]:List α).length=0)∧(∀ {α:Type} (a b:List α),(a++b).length=a.length+b.length)∧(∀ {α β:Type} (f:α→β) (l:List α),(l.map f).length=l.length)
    ∧ (∀ {α:Type} (n:Nat) (l:List α),(l.take n).length=min n l.length)∧(∀ {α:Type} (n:Nat) (l:List α),(l.drop n).length=l.length - n)∧(∀ {α:Type} (n:Nat) (l:List α) (a:α),(l.set n a).length=l.length)∧(∀ {α:Type} (n:Nat) (a:α),(List.replicate n a).length=n) :=
  ⟨fun _ _=>rfl,rfl,fun _ _=>List.length_append,fun _ _=>List.length_map _,fun _ _=>List.length_take,fun _ _=>List.length_drop,fun _ _ _=>List.length_set,fun _ _=>List.length_replicate⟩
theorem apps:(∀ (a:Chk) (l m:List Chk),(a :: l)++m=a :: (l++m))∧(∀ l:List Chk,[]++l=l):=⟨fun _ _ _=>rfl,fun _=>rfl⟩
theorem sets:(∀ (cs:List Value) (o:Nat),setL cs o []=cs)∧(∀ (cs:List Value) (o:Nat) (x:Value) (l:List Value),setL cs o (x :: l)=setL (cs.set o x) (o+1) l)∧(∀ (a b:Value) (l:List Value),(a :: l).set 0 b=b :: l)∧(∀ (a b:Value) (l:List Value) (n:Nat),(a :: l).set (n+1) b=a :: l.set n b):=⟨setL_n,setL_c,fun _ _ _=>rfl,fun _ _ _ _=>rfl⟩
theorem dis {p:Prop} (h:p:=by first|assumption|exact Sep.blk (by assumption) (by repeat constructor)|exact Sep.rd (by assumption) (by repeat constructor)|exact Blk.old (by assumption) (by assumption)|exact Rd.old (by assumption) (by assumption)|exact EncSz.h|exact OneI.h|omega|(simp only [lens];omega)|exact Rd.one (by assumption)|exact Sep.accOne (by assumption) (by repeat constructor)|fail):p:=h
theorem dj {p:Prop} (h:p:=by first|assumption|omega|(simp only [lens];omega)|exact Sep.sub (by assumption) (by repeat constructor)):p:=h
theorem dl {p:Prop} (h:p:=by first|omega|(simp only [lens];omega)):p:=h
theorem done1 {v:Value} (h:One v:=by first|with_reducible assumption|exact OneI.h|exact Sep.accOne (by assumption) (by repeat constructor)|exact Rd.one (by assumption)):One v:=h
theorem agg_cells {cs:List Value}:(Value.agg cs.toArray).cells=cs.toArray:=rfl
theorem dones {cs:List Value} (h:∀ u∈cs,One u:=by (intro u hu;simp only [push_cast,List.mem_cons,List.not_mem_nil,or_false] at hu;(repeat first|(obtain hu|hu:=hu;(subst hu;exact done1))|(subst hu;exact done1)))):∀ u∈cs,One u:=h
theorem dsl {t e:TypeId} {sz bt:Nat} {zs:List Value} (h:SlT Tryz.prog t e sz bt zs:=by first|exact sl22|exact sl40|exact sl53|exact sl65|exact sl112|exact sl115|exact sl124|exact sl154|exact sl168|exact sl225|exact sl247|fail):SlT Tryz.prog t e sz bt zs:=h
theorem dmp {t kt et:TypeId} {z:Value} (h:MapT Tryz.prog t kt et z:=by first|exact mp52|exact mp149|exact mp169|exact mp260|fail):MapT Tryz.prog t kt et z:=h
theorem dpt {t e:TypeId} (h:PtT Tryz.prog t e:=by first|exact pt15|exact pt16|exact pt17|exact pt25|exact pt64|exact pt90|exact pt101|exact pt135|exact pt194|exact pt240|exact pt257|exact pt273|fail):PtT Tryz.prog t e:=h
theorem fct:True:=trivial
theorem Sep.xx {w0 w w':World} {L:List Chk} (hx:Ext w w') (h:Sep w0 w L:=by assumption):Sep w0 w' L:=h.ext hx
theorem brO_n {P:Program} {l1 l2:List ML} {ρ1 ρ2:Fr} {w:World} {c:Bool} {K:Fr→World→Prop} {b1 b2 c1 c2:Prop} (ha:b1→c1→O P K l1 ρ1 w) (hb:b2→c2→O P K l2 ρ2 w)
    (h1:(c=true)=b1:=by first|(conv=>lhs;simp only [Bool.not_eq_true',Bool.not_eq_false'])|rfl) (h2:(c=false)=b2:=by first|(conv=>lhs;simp only [Bool.not_eq_true',Bool.not_eq_false'])|rfl)
    (h3:b1=c1:=by first|(conv=>lhs;simp only [hcs,reduceCtorEq])|rfl) (h4:b2=c2:=by first|(conv=>lhs;simp only [hcs,reduceCtorEq])|rfl):brO P K c l1 ρ1 l2 ρ2 w :=
  brO_mk (fun h=>ha (h1.mp h) (h3.mp (h1.mp h))) (fun h=>hb (h2.mp h) (h4.mp (h2.mp h)))
theorem brQ_n {P:Program} {l1 l2:List ML} {ρ1 ρ2:Fr} {w:World} {c:Bool} {K:Fr→Prop} {b1 b2 c1 c2:Prop} (ha:b1→c1→Q P K w l1 ρ1) (hb:b2→c2→Q P K w l2 ρ2)
    (h1:(c=true)=b1:=by first|(conv=>lhs;simp only [Bool.not_eq_true',Bool.not_eq_false'])|rfl) (h2:(c=false)=b2:=by first|(conv=>lhs;simp only [Bool.not_eq_true',Bool.not_eq_false'])|rfl)
    (h3:b1=c1:=by first|(conv=>lhs;simp only [hcs,reduceCtorEq])|rfl) (h4:b2=c2:=by first|(conv=>lhs;simp only [hcs,reduceCtorEq])|rfl):brQ P K w c l1 ρ1 l2 ρ2 :=
  brQ_mk (fun h=>ha (h1.mp h) (h3.mp (h1.mp h))) (fun h=>hb (h2.mp h) (h4.mp (h2.mp h)))
theorem G.cn {P:Program} {fn:Func} {n:Nat} {ρ:Fr} {w:World} {r:List MI} {R:Value→World→Prop} {c:Operand} {a b:MC} {t:Bool} {c1 c2:Prop} (ht:c1→G P fn n (.c a :: r) R ρ w) (hf:c2→G P fn n (.c b :: r) R ρ w)
    (hc:ev ρ c=.bool t:=by (simp only [push_cast,↓reduceIte,zq1,zq2,zq3,zq4,zq5,fct];rfl)) (h1:(t=true)=c1:=by first|(conv=>lhs;simp only [hcs,reduceCtorEq])|rfl) (h2:(t=false)=c2:=by first|(conv=>lhs;simp only [hcs,reduceCtorEq])|rfl):G P fn n (.c (.cond c a b) :: r) R ρ w :=
  G.cond hc (fun h=>ht (h1.mp h)) (fun h=>hf (h2.mp h))
theorem gBox {P:Program} {t:TypeId} {v:Value} {w:World} {d:Option Nat} {ρ:Fr} {next:Fr→World→Prop} (h:SemK P (Instr.box t v) w d ρ next):SemK P (Instr.box t v) w d ρ next:=h
theorem gSt {P:Program} {n:Nat} {q:Option Addr} {v:Value} {w:World} {d:Option Nat} {ρ:Fr} {next:Fr→World→Prop} (h:StK P n (.pointer q) v w d ρ next):StK P n (.pointer q) v w d ρ next:=h
theorem Sep.ap {w0 w w':World} {L L':List Chk} (h':Sep w w' L') (h:Sep w0 w L:=by assumption):Sep w0 w' (L'++L):=h.app h'
section
variable {ρ:Fr} {w w0:World} {d:Option Nat} {next:Fr→World→Prop} {L L' M:List Chk} {g n:Nat} {t e ty:TypeId} {cs:List Value} {v:Value} {bt:Nat} {zs:List Value}
theorem zalc (k:∀ g w',Sep w0 w' (boxC g t cs :: L)→next (updO ρ d (.pointer (some ⟨g,0,none⟩))) w') (hS:Sep w0 w L:=by assumption):AlcK Tryz.prog t cs w d ρ next:=alcK hS k
theorem zbsl (k:∀ g w',Sep w0 w' (boxC g t cs :: L)→next (updO ρ d (.slice (some ⟨g,0,none⟩) n n)) w') (hS:Sep w0 w L:=by assumption):BslK Tryz.prog t cs n w d ρ next:=bslK hS k
theorem zbox {l:List Value} (k:∀ g w',Sep w0 w' (boxC g t l :: L)→next (updO ρ d (.pointer (some ⟨g,0,none⟩))) w') (hS:Sep w0 w L:=by assumption) (hl:v.cells=l.toArray:=by first|with_reducible exact agg_cells|exact one_cells done1|rfl):SemK Tryz.prog (Instr.box t v) w d ρ next:=boxK hS hl k
theorem zst {o:Nat} {l:List Value} (k:∀ w',Sep w0 w' L'→next (updO ρ d undef) w') (hS:Sep w0 w L:=by assumption) (hl:v.cells=l.toArray:=by first|with_reducible exact agg_cells|exact one_cells done1|rfl) (hu:Up (boxC g t cs) (boxC g t (setL cs o l)) L L':=by repeat constructor) (hn:l.length=n:=by rfl) (ho:o+n≤cs.length:=by exact dl) (h1:∀ u∈l,One u:=by exact dones) :
    StK Tryz.prog n (.pointer (some ⟨g,o,none⟩)) v w d ρ next:=stK hS hl hu hn ho h1 k
theorem zs2 {o:Nat} {l:List Value} {M:List Value} (k:∀ w',Sep w0 w' L'→next (updO ρ d undef) w') (hS:Sep w0 w L:=by assumption) (hl:v.cells=l.toArray:=by first|with_reducible exact agg_cells|exact one_cells done1|rfl) (hM:setL cs o l=M:=by (conv=>lhs;simp only [sets])) (hu:Up (boxC g t cs) (boxC g t M) L L':=by repeat constructor) (hn:l.length=n:=by rfl) (ho:o+n≤cs.length:=by exact dl) (h1:∀ u∈l,One u:=by exact dones) :
    StK Tryz.prog n (.pointer (some ⟨g,o,none⟩)) v w d ρ next:=by subst hM;exact stK hS hl hu hn ho h1 k
theorem zap {α:Type} {E:Enc α} {xs:List α} {cells:List Value} {R:Value→List Chk} {y:α} (k:∀ v' w',Sep w0 w' (R v')→next (updO ρ d v') w') (hS:Sep w0 w L:=by assumption) (hb:Ex (boxC g e cells) L M:=by repeat constructor) (hu:∀ v',Up (accC v e E xs) (accC v' e E (xs++[y])) M (R v'):=by intro v';repeat constructor) (hy:cells=E.f y:=by rfl) (hT:SlT Tryz.prog t e E.sz bt zs:=by exact dsl) (hp:0 < E.sz:=by decide)
    (h63:((xs.length+1)+(xs.length+1) / 4+192) * bt≤281474976710656:=by exact dl) (h64:xs.length+1≤1000000000000000:=by exact dl) (h1:∀ u∈cells,One u:=by exact dones):SemK Tryz.prog (Builtin.append_ #[t,t] ty #[v,.slice (some ⟨g,0,none⟩) 1 1]) w d ρ next:=app1 y hS hb hu hy hT hp h63 h64 h1 k
theorem zan {α:Type} {E:Enc α} {xs ys:List α} {x:Value} {R:Value→List Chk} (k:∀ v' w',Sep w0 w' (R v')→next (updO ρ d v') w') (hS:Sep w0 w L:=by assumption) (hr:Rd w E x ys:=by exact dis) (hu:∀ v',Up (accC v e E xs) (accC v' e E (xs++ys)) L (R v'):=by intro v';repeat constructor) (hT:SlT Tryz.prog t e E.sz bt zs:=by exact dsl) (hp:0 < E.sz:=by decide)
    (h63:((xs.length+ys.length)+(xs.length+ys.length) / 4+192) * bt≤281474976710656:=by exact dl) (h64:xs.length+ys.length≤1000000000000000:=by exact dl):SemK Tryz.prog (Builtin.append_ #[t,t] ty #[v,x]) w d ρ next:=appN hS hr hu hT hp h63 h64 k
theorem zn1 {x y:Operand} {sz:Nat} (h:next (updO ρ d (.bool (isNil v))) w) (hu:SlT Tryz.prog t e sz bt zs:=by exact dsl) (hv:isL v=True:=by simp (disch:=(first|exact dis|fail)) only [push_cast,↓reduceIte,zq1,zq2,zq3,zq4,zq5]):SemK Tryz.prog (do eqGuard .eql t x y v (.slice none 0 0);binOp .eql t v (.slice none 0 0)) w d ρ next:=nilS_e hu hv h
theorem zn2 {x y:Operand} {sz:Nat} (h:next (updO ρ d (.bool (!(isNil v)))) w) (hu:SlT Tryz.prog t e sz bt zs:=by exact dsl) (hv:isL v=True:=by simp (disch:=(first|exact dis|fail)) only [push_cast,↓reduceIte,zq1,zq2,zq3,zq4,zq5]):SemK Tryz.prog (do eqGuard .neq t x y v (.slice none 0 0);binOp .neq t v (.slice none 0 0)) w d ρ next:=nilS_n hu hv h
theorem zn3 {x y:Operand} {p:Option Addr} (h:next (updO ρ d (.bool (isNil (.pointer p)))) w) (hu:PtT Tryz.prog t e:=by exact dpt):SemK Tryz.prog (do eqGuard .eql t x y (.pointer p) (.pointer none);binOp .eql t (.pointer p) (.pointer none)) w d ρ next:=nilP_e hu h
theorem zn4 {x y:Operand} {p:Option Addr} (h:next (updO ρ d (.bool (!(isNil (.pointer p))))) w) (hu:PtT Tryz.prog t e:=by exact dpt):SemK Tryz.prog (do eqGuard .neq t x y (.pointer p) (.pointer none);binOp .neq t (.pointer p) (.pointer none)) w d ρ next:=nilP_n hu h
theorem zcp (f:Nat) {args:List Value} {X:Value} (h:Pu Tryz.prog f args.toArray w X) (k:∀ w',Sep w0 w' L→next (updO ρ d X) w') (hS:Sep w0 w L:=by assumption):CallK Tryz.prog f args w d ρ next:=callK_pu hS h k
theorem zco (f:Nat) {args:List Value} {V:Value→World→Prop} (h:Ret Tryz.prog f args.toArray w V) (k:∀ v w',V v w'→next (updO ρ d v) w'):CallK Tryz.prog f args w d ρ next:=callK_of h k
theorem zag2 {P:Program} {s t g bt:Nat} {xs:List Value} {R:List Chk} (hs:ρ s=.pointer (some ⟨g,0,none⟩):=by (simp only [push_cast,↓reduceIte,zq1,zq2,zq3,zq4,zq5,fct];rfl)) (hS:Sep w0 w L:=by assumption) (he:Ex (boxC g bt xs) L R:=by repeat constructor) (ht:aggN P t=some (some xs.length):=by kernel_rfl):RV P ρ w (.cell s t) (.agg xs.toArray):=RV.agg hs (hS.blk he) ht
end
section
variable {P:Program} {fn:Func} {n:Nat} {ρ:Fr} {w:World} {r:List MI} {R:Value→World→Prop} {y1 y2 y3:ResultVar} {v1 v2 v3:Value}
theorem sf {p:Prop} (h:p:=by first|(simp only [push_cast,↓reduceIte,zq1,zq2,zq3,zq4,zq5,fct]<;>rfl)|rfl):p:=h
theorem G.r1 (h:R v1 w) (hf:fn.results=#[y1]:=by rfl) (h1:RV P ρ w y1 v1:=by first|exact RV.tmp|exact zag2):G P fn n (.c .ret :: r) R ρ w:=G.rv1 hf h1 h
theorem G.r2 (h:R (.tuple #[v1,v2]) w) (hf:fn.results=#[y1,y2]:=by rfl) (h1:RV P ρ w y1 v1:=by first|exact RV.tmp|exact zag2) (h2:RV P ρ w y2 v2:=by first|exact RV.tmp|exact zag2):G P fn n (.c .ret :: r) R ρ w:=G.rv2 hf h1 h2 h
theorem G.r3 (h:R (.tuple #[v1,v2,v3]) w) (hf:fn.results=#[y1,y2,y3]:=by rfl) (h1:RV P ρ w y1 v1:=by first|exact RV.tmp|exact zag2) (h2:RV P ρ w y2 v2:=by first|exact RV.tmp|exact zag2) (h3:RV P ρ w y3 v3:=by first|exact RV.tmp|exact zag2):G P fn n (.c .ret :: r) R ρ w:=G.rv3 hf h1 h2 h3 h
theorem G.r0 (h:R (.tuple #[]) w) (hf:fn.results=#[]:=by rfl):G P fn n (.c .ret :: r) R ρ w:=G.ret0 hf h
end
section
variable {β:Type} {ρ:Fr} {w w0:World} {d:Option Nat} {next:Fr→World→Prop} {L L' R:List Chk} {r:Nat} {t kt et ty:TypeId} {z:Value} {m:Str→Option β}
theorem zmm {x:Option Value} (enc:β→Value) (k:∀ g w',Sep w0 w' (mapC g enc (fun _=>none) :: L)→next (updO ρ d (.map (some g))) w') (hS:Sep w0 w L:=by assumption) (hT:MapT Tryz.prog t kt et z:=by exact dmp) (hx:x=none∨∃ n:Int,x=some (I n):=by first|exact Or.inl rfl|exact Or.inr ⟨_,rfl⟩):SemK Tryz.prog (Instr.makeMap t x) w d ρ next:=mkmK enc hS hT hx k
theorem zlk {c:Bool} {enc:β→Value} {s:Str} (k:next (updO ρ d (if c then .tuple #[mget enc z (m s),.bool (m s).isSome] else mget enc z (m s))) w) (hM:MapRd w r enc m:=by first|assumption|exact Sep.mrd (by assumption) (by repeat constructor)|exact MapRd.old (by assumption) (by assumption)) (hT:MapT Tryz.prog t kt et z:=by exact dmp):SemK Tryz.prog (Instr.lookup t (.map (some r)) (S s) c) w d ρ next:=lkpK hM hT k
theorem zmu {enc:β→Value} {s:Str} {b:β} {v:Value} (k:∀ w',Sep w0 w' L'→next (updO ρ d undef) w') (hS:Sep w0 w L:=by assumption) (hu:Up (mapC r enc m) (mapC r enc (mput m s b)) L L':=by repeat constructor) (hv:v=enc b:=by rfl) (hT:MapT Tryz.prog t kt et z:=by exact dmp):UnitK Tryz.prog (Instr.mapUpdate t (.map (some r)) (S s) v) w d ρ next:=mupK hS hu hv hT k
end
end Go.Proofs.YtllanbmpacgigaaGreatDoor
namespace Go.Proofs.YtllanbmpacgigaaGreatDoor
open Nat renaming reduceAdd→zq1,reduceLeDiff→zq2,reduceEqDiff→zq3,reduceLT→zq4
open Int renaming reduceToNat→zq5
set_option linter.unusedSimpArgs false
set_option linter.unusedVariables false
open Go.RowKit
end Go.Proofs.YtllanbmpacgigaaGreatDoor
namespace Go.Proofs.YtllanbmpacgigaaGreatDoor
open Nat renaming reduceAdd→zq1,reduceLeDiff→zq2,reduceEqDiff→zq3,reduceLT→zq4
open Int renaming reduceToNat→zq5
set_option linter.unusedSimpArgs false
set_option linter.unusedVariables false
open Go.RowKit
def bldC (g:Nat) (t tu:TypeId) (xs:Str):Chk where
  ok w F:=∃ p bv F',Blk w g t [p,bv].toArray∧F g∧¬ F' g∧(∀ b,F' b→F b)∧(accC bv tu eU xs).ok w F'∧(p=.pointer none∨p=.pointer (some ⟨g,0,none⟩))
  loc:=by
    rintro w w' F hb ⟨p,bv,F',h1,h2,h3,h4,h5,h6⟩
    exact ⟨p,bv,F',(hb g h2).2.trans h1,h2,h3,h4,(accC bv tu eU xs).loc (fun b hF=>hb b (h4 b hF)) h5,h6⟩
section
variable {w w0:World} {L R:List Chk} {g:Nat} {t tu:TypeId} {xs:Str}
theorem Sep.openB (h:Sep w0 w L) (he:Ex (bldC g t tu xs) L R):∃ p bv,(p=.pointer none∨p=.pointer (some ⟨g,0,none⟩))∧Sep w0 w (boxC g t [p,bv] :: accC bv tu eU xs :: R):=by
  obtain ⟨F,⟨p,bv,F',f1,f2,f3,f4,f5,f6⟩,h2,h3⟩:=SepL.take he h.2
  refine ⟨p,bv,f6,h.1,fun b=>b=g,⟨rfl,f1⟩,fun b hb=>?_,F',f5,fun b hb=>⟨(h2 b (f4 b hb)).1,(h2 b (f4 b hb)).2.1,?_⟩,SepL.mono h3 ?_⟩
  · subst hb;exact h2 b f2
  · rintro (q|q)
    · exact q
    · subst q;exact f3 hb
  · rintro b ((q|q)|q)
    · exact .inl q
    · subst q;exact .inr f2
    · exact .inr (f4 b q)
theorem Sep.shutB {p bv:Value} (h:Sep w0 w (boxC g t [p,bv] :: accC bv tu eU xs :: R)) (hp:p=.pointer none∨p=.pointer (some ⟨g,0,none⟩)):Sep w0 w (bldC g t tu xs :: R):=by
  obtain ⟨F1,⟨f1,b1⟩,h2,F2,a1,a2,h3⟩:=h.2
  refine ⟨h.1,fun b=>F1 b∨F2 b,⟨p,bv,F2,b1,.inl f1,fun hg=>(a2 g hg).2.2 (.inr f1),fun b hb=>.inr hb,a1,hp⟩,?_,SepL.mono h3 ?_⟩
  · rintro b (q|q)
    · exact h2 b q
    · exact ⟨(a2 b q).1,(a2 b q).2.1,fun hf=>(a2 b q).2.2 (.inl hf)⟩
  · rintro b (q|q|q)
    · exact .inl (.inl q)
    · exact .inl (.inr q)
    · exact .inr q
theorem Sep.newB (tu:TypeId) (h:Sep w0 w (boxC g t [.pointer none,.slice none 0 0] :: R)):Sep w0 w (bldC g t tu [] :: R):=by
  obtain ⟨F1,⟨f1,b1⟩,h2,h3⟩:=h.2
  exact ⟨h.1,F1,⟨_,_,fun _=>False,b1,f1,id,fun _ hb=>hb.elim,nil_own w tu eU,.inl rfl⟩,h2,h3⟩
end
end Go.Proofs.YtllanbmpacgigaaGreatDoor
namespace Go.Proofs.YtllanbmpacgigaaGreatDoor
open Nat renaming reduceAdd→zq1,reduceLeDiff→zq2,reduceEqDiff→zq3,reduceLT→zq4
open Int renaming reduceToNat→zq5
set_option linter.unusedSimpArgs false
set_option linter.unusedVariables false
open Go.RowKit
section
variable {w:World} {g:Nat} {t:TypeId} {a b:Int} {cap:Nat} {v:Value} {xs:Str}
theorem b2s_rd (h:Rd w eU v xs):okB2s w v∧b2sV w v=S xs:=by
  obtain ⟨p,cap,rfl,h1,h2,h3,h4⟩:=h
  cases p with
  | none =>
    have:xs=[]:=List.eq_nil_of_length_eq_zero (by
      apply Nat.eq_zero_of_not_pos
      intro hp
      obtain ⟨a,ha,_⟩:=h4 hp
      simp at ha)
    subst this
    exact ⟨trivial,rfl⟩
  | some p =>
    have hc:∀ j (hj:j < xs.length),w.cell? (p.add j)=some (.int .u8 (xs[j].toNat:Int)):=by
      intro j hj
      obtain ⟨a,ha,h5⟩:=h4 (by omega)
      simp only [Option.some.injEq] at ha
      subst ha
      refine h5 j _ ?_
      rw [←byte_flat,List.getElem?_map,List.getElem?_eq_getElem hj];rfl
    refine ⟨fun j hj=>⟨_,hc j hj⟩,?_⟩
    simp only [b2sV]
    congr 1
    apply List.ext_getElem
    · simp
    · intro j h1 h2
      simp only [List.getElem_map,List.getElem_range]
      rw [hc j h2]
      simp [byteOfV]
theorem okB2s_rd (h:Rd w eU v xs):okB2s w v=True:=eq_true (b2s_rd h).1
theorem b2sV_rd (h:Rd w eU v xs):b2sV w v=S xs:=(b2s_rd h).2
theorem blk_add (h:Blk w g t [.int .u8 a,.int .u8 b].toArray):w.cell? ((⟨g,0,none⟩:Addr).add 0)=some (.int .u8 a)∧w.cell? ((⟨g,0,none⟩:Addr).add 1)=some (.int .u8 b):=by
  unfold Blk at h
  constructor<;>simp [World.cell?,Addr.add,h]
theorem okB2s_b2 (h:Blk w g t [.int .u8 a,.int .u8 b].toArray):okB2s w (.slice (some ⟨g,0,none⟩) 2 cap)=True:=by
  apply eq_true
  intro j hj
  obtain ⟨h0,h1⟩:=blk_add h
  have:j=0∨j=1:=by omega
  rcases this with rfl|rfl
  · exact ⟨_,h0⟩
  · exact ⟨_,h1⟩
theorem b2sV_b2 (h:Blk w g t [.int .u8 a,.int .u8 b].toArray):b2sV w (.slice (some ⟨g,0,none⟩) 2 cap)=S [UInt8.ofNat a.toNat,UInt8.ofNat b.toNat]:=by
  obtain ⟨h0,h1⟩:=blk_add h
  simp only [b2sV,show List.range 2=[0,1] from rfl,List.map_cons,List.map_nil,h0,h1]
  rfl
theorem okB2s_b1 (h:Blk w g t [.int .u8 a].toArray):okB2s w (.slice (some ⟨g,0,none⟩) 1 cap)=True:=by
  apply eq_true
  intro j hj
  have:j=0:=by omega
  subst this
  unfold Blk at h
  exact ⟨a,by simp [World.cell?,Addr.add,h]⟩
theorem b2sV_b1 (h:Blk w g t [.int .u8 a].toArray):b2sV w (.slice (some ⟨g,0,none⟩) 1 cap)=S [UInt8.ofNat a.toNat]:=by
  unfold Blk at h
  simp only [b2sV,show List.range 1=[0] from rfl,List.map_cons,List.map_nil]
  simp [World.cell?,Addr.add,h,byteOfV]
theorem ofn_nat (c:UInt8):UInt8.ofNat c.toNat=c:=UInt8.ofNat_toNat
end
attribute [push_cast] okB2s_rd b2sV_rd okB2s_b2 b2sV_b2 okB2s_b1 b2sV_b1 ofn_nat
end Go.Proofs.YtllanbmpacgigaaGreatDoor
namespace Go.Proofs.YtllanbmpacgigaaGreatDoor
open Nat renaming reduceAdd→zq1,reduceLeDiff→zq2,reduceEqDiff→zq3,reduceLT→zq4
open Int renaming reduceToNat→zq5
set_option linter.unusedSimpArgs false
set_option linter.unusedVariables false
open Go.RowKit
def RdF {α:Type} (F:Nat→Prop) (w:World) (E:Enc α) (v:Value) (xs:List α):Prop:=Rd w E v xs∧∀ a n c,v=.slice (some a) n c→0 < xs.length→F a.block
section
variable {α:Type} {w w' w0:World} {E:Enc α} {F F':Nat→Prop} {v:Value} {xs:List α} {vs:List Value} {xss:List (List α)} {L M R:List Chk} {t:TypeId}
theorem RdF.loc (h:RdF F w E v xs) (hb:∀ b,F b→b < w.heap.size∧w'.heap[b]?=w.heap[b]?):RdF F w' E v xs:=by
  obtain ⟨⟨p,cap,h1,h2,h3,h4,h5⟩,hF⟩:=h
  refine ⟨⟨p,cap,h1,h2,h3,h4,fun hn=>?_⟩,hF⟩
  obtain ⟨a,ha,hc⟩:=h5 hn
  refine ⟨a,ha,fun j u hj=>?_⟩
  have hf:=hF a _ _ (by rw [h1,ha]) hn
  have h6:=hc j u hj
  have hblk:(a.add j).block=a.block:=by unfold Addr.add;split<;>rfl
  unfold World.cell? at h6 ⊢
  rw [hblk] at h6 ⊢
  rw [(hb _ hf).2]
  exact h6
theorem RdF.mono (h:RdF F w E v xs) (hF:∀ b,F b→F' b):RdF F' w E v xs:=⟨h.1,fun a n c hv hn=>hF _ (h.2 a n c hv hn)⟩
def frzC (E:Enc α) (vs:List Value) (xss:List (List α)):Chk where
  ok w F:=vs.length=xss.length∧∀ i,i < xss.length→RdF F w E (vs.getD i default) (xss.getD i [])
  loc:=fun hb ⟨h1,h2⟩=>⟨h1,fun i hi=>(h2 i hi).loc hb⟩
theorem Sep.frz0 (hS:Sep w0 w L) (E:Enc α):Sep w0 w (frzC E [] [] :: L):=hS.push (Ext.refl w) (F:=fun _=>False) ⟨rfl,fun i hi=>by simp at hi⟩ (fun _ h=>h.elim)
theorem acc_rdF (h:(accC v t E xs).ok w F):RdF F w E v xs:=by
  obtain ⟨h1,h2,h3,h4⟩:=h
  refine ⟨own_rd h1 h3 h4,fun a n c hv hn=>?_⟩
  rcases h1.2 with ⟨hv',hn'⟩|⟨g,cap,cur,hv',_⟩
  · rw [hv'] at hv;simp at hv
  · rw [hv'] at hv
    simp only [Value.slice.injEq,Option.some.injEq] at hv
    rw [←hv.1]
    exact h2 g (by rw [hv'];rfl)
theorem getD_snoc_lt {β:Type} (l:List β) (x d:β) (i:Nat) (h:i < l.length):(l++[x]).getD i d=l.getD i d:=by
  simp [List.getD_eq_getElem?_getD,List.getElem?_append_left h]
theorem getD_snoc_eq {β:Type} (l:List β) (x d:β):(l++[x]).getD l.length d=x:=by
  simp [List.getD_eq_getElem?_getD]
theorem Sep.frzPush (hS:Sep w0 w L) (h1:Ex (accC v t E xs) L M) (h2:Ex (frzC E vs xss) M R):Sep w0 w (frzC E (vs++[v]) (xss++[xs]) :: R):=by
  obtain ⟨F,f1,f2,f3⟩:=SepL.take h1 hS.2
  obtain ⟨G,g1,g2,g3⟩:=SepL.take h2 f3
  refine ⟨hS.1,fun b=>F b∨G b,?_,fun b hb=>?_,SepL.mono g3 ?_⟩
  · obtain ⟨hl,hr⟩:=g1
    refine ⟨by simp [hl],fun i hi=>?_⟩
    simp only [List.length_append,List.length_cons,List.length_nil] at hi
    by_cases hlt:i < xss.length
    · rw [getD_snoc_lt _ _ _ _ (by omega),getD_snoc_lt _ _ _ _ hlt]
      exact (hr i hlt).mono fun b h=>.inr h
    · have:i=xss.length:=by omega
      subst this
      rw [getD_snoc_eq,←hl,getD_snoc_eq]
      exact (acc_rdF f1).mono fun b h=>.inl h
  · rcases hb with hb|hb
    · exact ⟨(f2 b hb).1,(f2 b hb).2.1,id⟩
    · exact ⟨(g2 b hb).1,(g2 b hb).2.1,id⟩
  · rintro b (h|h|h)
    · exact h.elim
    · exact .inl (.inr h)
    · exact .inr h
theorem Sep.frzAt (hS:Sep w0 w L) (h:Ex (frzC E vs xss) L R) {i:Nat} (hi:i < xss.length):Rd w E (vs.getD i default) (xss.getD i []):=by
  obtain ⟨F,h1,_⟩:=hS.get h
  exact (h1.2 i hi).1
theorem Sep.frzLen (hS:Sep w0 w L) (h:Ex (frzC E vs xss) L R):vs.length=xss.length:=by
  obtain ⟨F,h1,_⟩:=hS.get h
  exact h1.1
theorem Sub.rfl':∀ {M:List Chk},Sub M M
  | []=>.n
  | _ :: _=>.c .h Sub.rfl'
theorem Sub.skip {d:Chk}:∀ {M L:List Chk},Sub M L→Sub M (d :: L):=by
  intro M L h
  induction h with
  | n=>exact .n
  | c he _ ih=>exact .c (.t he) ih
theorem Sep.cut0 {k:IntKind} {L':List Chk} {sz:Nat} (hS:Sep w0 w L) (hu:Up (accC v t E xs) (accC (slVV sz none (some (.int k 0)) v) t E []) L L'):Sep w0 w L':=by
  refine hS.change hu (Nat.le_refl _) rfl rfl rfl fun F hc hF=>⟨F,?_,fun b hb=>⟨hF b hb,.inl hb⟩,fun _ _ _=>rfl⟩
  obtain ⟨⟨h1,h2⟩,h3,h4,h5⟩:=hc
  rcases h2 with ⟨rfl,hn⟩|⟨g,cap,cur,rfl,hb,hg,hnc,hcm,hcs,htk⟩
  · exact ⟨⟨by simp,.inl ⟨rfl,rfl⟩⟩,fun g h=>by simp [slVV,Value.ownBlock,loN,hiN] at h,by simp,by simp⟩
  · have e:slVV sz none (some (.int k 0)) (.slice (some ⟨g,0,none⟩) xs.length cap)=.slice (some ⟨g,0,none⟩) 0 cap:=by
      simp [slVV,loN,hiN,Addr.add]
    rw [e]
    exact ⟨⟨by simp,.inr ⟨g,cap,cur,rfl,hb,hg,Nat.zero_le _,hcm,hcs,by simp⟩⟩,fun g' h=>h3 g' (by simpa [Value.ownBlock] using h),by simp,by simp⟩
def RdT (w:World) (E:Enc α) (v:Value) (xss:List (List α)):Prop:=∃ vs,Rd w eV v vs∧vs.length=xss.length∧∀ i,i < xss.length→Rd w E (vs.getD i default) (xss.getD i [])
theorem RdT.ext (h:RdT w E v xss) (hx:Ext w w'):RdT w' E v xss:=by
  obtain ⟨vs,h1,h2,h3⟩:=h
  exact ⟨vs,h1.ext hx,h2,fun i hi=>(h3 i hi).ext hx⟩
theorem Sep.rdT (hS:Sep w0 w L) {u:TypeId} (h1:Ex (accC v u eV vs) L M) (h2:Ex (frzC E vs xss) L R):RdT w E v xss:=⟨vs,hS.rd h1,hS.frzLen h2,fun _ hi=>hS.frzAt h2 hi⟩
end
end Go.Proofs.YtllanbmpacgigaaGreatDoor
namespace Go.Proofs.YtllanbmpacgigaaGreatDoor
open Nat renaming reduceAdd→zq1,reduceLeDiff→zq2,reduceEqDiff→zq3,reduceLT→zq4
open Int renaming reduceToNat→zq5
set_option linter.unusedSimpArgs false
set_option linter.unusedVariables false
open Go.RowKit
section
variable {P:Program} {K:Fr→World→Prop} {rest:List ML} {ρ:Fr} {w w0:World} {d:Option Nat} {next:Fr→World→Prop} {L L' R:List Chk} {t ty e:TypeId} {v:Value} {g:Nat} {cs:List Value}
theorem O_usd (x:Operand) (ts:Array TypeId):O P K (⟨none,d,.raw (.call ⟨.builtin .unsafeSliceData,#[x],ts⟩) ty⟩ :: rest) ρ w=SemK P (Builtin.unsafeSliceData_ ts ty #[ev ρ x]) w d ρ (O P K rest):=by
  rw [O_raw];exact rawV (by simp [execOp,resolve,invoke,builtin])
theorem O_ust (x y:Operand) (ts:Array TypeId):O P K (⟨none,d,.raw (.call ⟨.builtin .unsafeString,#[x,y],ts⟩) ty⟩ :: rest) ρ w=SemK P (Builtin.unsafeString_ ts ty #[ev ρ x,ev ρ y]) w d ρ (O P K rest):=by
  rw [O_raw];exact rawV (by simp [execOp,resolve,invoke,builtin])
theorem eqSelf_n {x y:Operand} {a:Addr} {e:TypeId} (hu:PtT P t e) (hj:∃ j,P.info? e=some j) (h:next (updO ρ d (.bool false)) w):SemK P (do eqGuard .neq t x y (.pointer (some a)) (.pointer (some a));binOp .neq t (.pointer (some a)) (.pointer (some a))) w d ρ next:=by
  obtain ⟨j,hj⟩:=hj
  have e0:∀ dd,(Op.equalIn (dd+1) t (.pointer (some a)) (.pointer (some a))).run P w=.ok true w:=fun dd=>by
    simp only [Op.equalIn,Sem.run_bind,run_underlying hu.u,Result.andThen_ok]
    by_cases h0:j.size=0
    · simp [sizeOf,typeInfo,hj,h0]
    · simp [sizeOf,typeInfo,hj,h0,run_sameAddr_same]
  have h1:(Op.equal t (.pointer (some a)) (.pointer (some a))).run P w=.ok true w:=by simpa [Op.equal,Op.maxDepth] using e0 9999
  exact ⟨_,w,by simp [eqGuard,binOp,h1],h⟩
theorem blk_shape (h:Blk w g t cs.toArray):w.shape? g=some (t,cs.length):=by
  unfold Blk at h
  simp [World.shape?,h]
theorem zas {xs:List UInt8} {s:Str} {tx:TypeId} {bt:Nat} {zs:List Value} {R:Value→List Chk} (k:∀ v' w',Sep w0 w' (R v')→next (updO ρ d v') w') (hx:Tryz.prog.underlying tx=some .string) (hS:Sep w0 w L:=by assumption) (hu:∀ v',Up (accC v e eU xs) (accC v' e eU (xs++s)) L (R v'):=by intro v';repeat constructor) (hT:SlT Tryz.prog t e 1 bt zs:=by exact dsl)
    (h63:((xs.length+s.length)+(xs.length+s.length) / 4+192) * bt≤281474976710656:=by exact dl) (h64:xs.length+s.length≤1000000000000000:=by exact dl):SemK Tryz.prog (Builtin.append_ #[t,tx] ty #[v,S s]) w d ρ next:=appS hS hu hT hx h63 h64 k
end
def noC:Chk where
  ok _ F:=∀ b,¬ F b
  loc:=fun _ h=>h
theorem Ex.no {c:Chk} {L R:List Chk} (h:Ex c L R):∃ L',Up c noC L L'∧Ex noC L' R:=by
  induction h with
  | h=>exact ⟨_,.h,.h⟩
  | t _ ih=>obtain ⟨L',a,b⟩:=ih;exact ⟨_,.t a,.t b⟩
theorem freeze_parts (w:World) (a:Addr) (n:Nat):(w.freeze a n).heap.size=w.heap.size∧(w.freeze a n).os=w.os∧(w.freeze a n).tape=w.tape∧(w.freeze a n).output=w.output∧∀ b,b≠a.block→(w.freeze a n).heap[b]?=w.heap[b]?:=by
  unfold World.freeze
  split
  · exact ⟨rfl,rfl,rfl,rfl,fun _ _=>rfl⟩
  · refine ⟨by simp,rfl,rfl,rfl,fun b hb=>?_⟩
    simp [Array.getElem?_modify,Ne.symm hb]
theorem eU_take {xs:Str} {j:Nat} {x:UInt8} (h:xs[j]?=some x):(xs.flatMap eU.f)[j]?=some (.int .u8 x.toNat):=by
  rw [←byte_flat,List.getElem?_map,h];rfl
section
variable {P:Program} {ρ:Fr} {w w0:World} {d:Option Nat} {next:Fr→World→Prop} {L R:List Chk} {tu ty pt it:TypeId} {bv:Value} {xs:Str} {ts:Array TypeId}
theorem zusd (k:∀ q w',Sep w0 w' L→(xs≠[]→∃ g cap,bv=.slice (some ⟨g,0,none⟩) xs.length cap∧q=some ⟨g,0,none⟩)→next (updO ρ d (.pointer q)) w') (hS:Sep w0 w L) (he:Ex (accC bv tu eU xs) L R) {e:TypeId} (hp:P.underlying ty=some (.pointer e)):SemK P (Builtin.unsafeSliceData_ ts ty #[bv]) w d ρ next:=by
  obtain ⟨F,⟨h1,h2,h3,h4⟩,hF⟩:=hS.get he
  rcases h1.2 with ⟨rfl,h0⟩|⟨g,cap,cur,rfl,hbg,hg,hnc,hcm,hcs,htake⟩
  · exact ⟨_,w,Lib.run_unsafeSliceData_nil w ts ty 0 0,k _ _ hS fun hx=>absurd (List.eq_nil_of_length_eq_zero h0) hx⟩
  · by_cases hc:cap=0
    · subst hc
      have hx:xs=[]:=List.eq_nil_of_length_eq_zero (by omega)
      subst hx
      refine ⟨_,_,Lib.run_unsafeSliceData_zero w ts ty e hp ⟨g,0,none⟩ 0 (tu,cur.size) (by simp [World.shape?,hg]),k _ _ (hS.ext ((Ext.refl w).alloc _)) fun h=>absurd rfl h⟩
    · exact ⟨_,w,Lib.run_unsafeSliceData_row w ts ty _ _ _ hc,k _ _ hS fun _=>⟨g,cap,rfl,rfl⟩⟩
theorem zust {q:Option Addr} (k:∀ w',Sep w0 w' R→next (updO ρ d (S xs)) w') (hS:Sep w0 w L) (he:Ex (accC bv tu eU xs) L R) (hq:xs≠[]→∃ g cap,bv=.slice (some ⟨g,0,none⟩) xs.length cap∧q=some ⟨g,0,none⟩) (hp:P.underlying pt=some (.pointer tu)) (hc:P.cellsOf tu=1) :
    SemK P (Builtin.unsafeString_ #[pt,it] ty #[.pointer q,I xs.length]) w d ρ next:=by
  by_cases hx:xs=[]
  · subst hx
    exact ⟨_,w,Lib.run_unsafeString_none w pt it ty q,k _ (hS.drop he)⟩
  · obtain ⟨g,cap,rfl,rfl⟩:=hq hx
    obtain ⟨F,⟨h1,h2,h3,h4⟩,hF⟩:=hS.get he
    have hcell:∀ j x,xs[j]?=some x→w.cell? ((⟨g,0,none⟩:Addr).add j)=some (.int .u8 x.toNat):=fun j x hj=>h1.cells (g:=g) rfl j _ (eU_take hj)
    rcases h1.2 with ⟨hv,_⟩|⟨g',cap',cur,hv,hbg,hg,hnc,hcm,hcs,htake⟩
    · simp at hv
    simp only [Value.slice.injEq,Option.some.injEq,Addr.mk.injEq,and_true] at hv
    obtain ⟨rfl,_,rfl⟩:=hv
    have hsz:cur.size=cap:=by rw [hcs];exact Nat.mul_one _
    refine ⟨_,_,Lib.run_unsafeString_row w pt it ty tu hp hc g cur.size (by simp [World.shape?,hg]) xs hx (by omega) h4 hcell,k _ ?_⟩
    obtain ⟨s1,s2,s3,s4,s5⟩:=freeze_parts w ⟨g,0,none⟩ xs.length
    obtain ⟨L',hu,hd⟩:=he.no
    refine Sep.drop (hS.change hu (by omega) s2 s3 s4 ?_) hd
    rintro F' ⟨a1,a2,a3,a4⟩ hF'
    exact ⟨fun _=>False,fun b=>id,fun b hb=>hb.elim,fun b _ hb=>s5 b fun e=>hb (by rw [e];exact a2 g rfl)⟩
end
theorem u8_cells:Tryz.prog.cellsOf 5=1:=by kernel_rfl
theorem u8_ptr:Tryz.prog.underlying 90=some (.pointer 5):=by kernel_rfl
theorem bld_info:(Tryz.prog.info? 67).map (·.size)=some 2:=by kernel_rfl
theorem bld_has:∃ j,Tryz.prog.info? 67=some j:=by
  obtain ⟨j,hj,_⟩:=Option.map_eq_some_iff.1 bld_info
  exact ⟨j,hj⟩
theorem bld_lies:liesAt Tryz.prog Tryz.prog.depth 67 (2 / Tryz.prog.cellsOf 67) 0 67 1=true:=by kernel_rfl
theorem bld_ptr:Tryz.prog.underlying 64=some (.pointer 67):=by kernel_rfl
theorem bld_uns:Tryz.prog.underlying 132=some .unsafePointer:=by kernel_rfl
section
variable {ρ:Fr} {w w0:World} {d:Option Nat} {next:Fr→World→Prop} {L R:List Chk} {g:Nat} {cs:List Value}
theorem cv_to (hB:Blk w g 67 cs.toArray) (hc:cs.length=2) (h:next (updO ρ d (.pointer (some ⟨g,0,none⟩))) w):SemK Tryz.prog (convert 64 132 (.pointer (some ⟨g,0,none⟩))) w d ρ next:=by
  obtain ⟨j,hj,hjs⟩:=Option.map_eq_some_iff.1 bld_info
  exact ⟨_,w,Lib.run_to_unsafe w ⟨g,0,none⟩ bld_ptr bld_uns hj (by rw [hjs];decide) (blk_shape hB) (by show 0 < cs.length;rw [hc];decide),h⟩
theorem cv_from (hB:Blk w g 67 cs.toArray) (hc:cs.length=2) (h:next (updO ρ d (.pointer (some ⟨g,0,none⟩))) w):SemK Tryz.prog (convert 132 64 (.pointer (some ⟨g,0,none⟩))) w d ρ next:=by
  obtain ⟨j,hj,hjs⟩:=Option.map_eq_some_iff.1 bld_info
  refine ⟨_,w,Lib.run_from_unsafe w ⟨g,0,none⟩ bld_uns bld_ptr hj (blk_shape hB) ?_,h⟩
  show liesAt Tryz.prog Tryz.prog.depth 67 (cs.length / Tryz.prog.cellsOf 67) 0 67 1=true
  rw [hc];exact bld_lies
theorem O_noe {K:Fr→World→Prop} {rest:List ML} {ty:TypeId} {ts:Array TypeId} (x:Operand):O Tryz.prog K (⟨none,d,.raw (.call ⟨.value (.func 84),#[x],ts⟩) ty⟩ :: rest) ρ w=SemK Tryz.prog (pure (ev ρ x)) w d ρ (O Tryz.prog K rest):=by
  rw [O_raw]
  have hr:(execOp (ev ρ) (opr (.call ⟨.value (.func 84),#[x],ts⟩) ty)).run Tryz.prog w=.ok (.value (ev ρ x)) w:=by
    have h1:=run_callFunc_extern Tryz.func84 (by kernel_rfl) (by kernel_rfl) (by kernel_rfl) (e:=Extern.AbiNoEscape.same) (by kernel_rfl) #[ev ρ x] w
    simp only [Lib.run_noEscape,Result.andThen_ok] at h1
    have hE:execOp (ev ρ) (opr (.call ⟨.value (.func 84),#[x],ts⟩) ty)=callFunc 84 #[ev ρ x]:=by
      simp [execOp,resolve,Deferred.ofValue,invoke,ev]
    rw [hE,h1]
  apply propext
  constructor
  · rintro (⟨v,w',h1,h2⟩|⟨w',h1,h2⟩|⟨f',args',w',h1,h2⟩)
    · rw [hr] at h1;simp at h1;obtain ⟨rfl,rfl⟩:=h1;exact ⟨_,_,rfl,h2⟩
    · rw [hr] at h1;simp at h1
    · rw [hr] at h1;simp at h1
  · rintro ⟨v,w',h1,h2⟩
    simp at h1;obtain ⟨rfl,rfl⟩:=h1
    exact .inl ⟨_,_,hr,h2⟩
theorem pureK {v:Value} (h:next (updO ρ d v) w):SemK Tryz.prog (pure v) w d ρ next:=⟨v,w,rfl,h⟩
end
end Go.Proofs.YtllanbmpacgigaaGreatDoor
namespace Go.Proofs.YtllanbmpacgigaaGreatDoor
open Nat renaming reduceAdd→zq1,reduceLeDiff→zq2,reduceEqDiff→zq3,reduceLT→zq4
open Int renaming reduceToNat→zq5
set_option linter.unusedSimpArgs false
set_option linter.unusedVariables false
def dgB (b:UInt8):Bool:=decide (48≤b.toNat∧b.toNat≤57)
def bodM (t:List UInt8):Bool:=decide (t≠[]∧t.take 1≠[48]) && t.all dgB
def canM (t:List UInt8):Bool:=decide (t=[48]) || bodM t
def negM (s:List UInt8):Bool:=decide (s.take 1=[45])
def trM (s:List UInt8):List UInt8:=if negM s=true then s.drop 1 else s
def formM (s:List UInt8):Bool:=decide (s=[48]) || bodM (trM s)
end Go.Proofs.YtllanbmpacgigaaGreatDoor
namespace Go.Proofs.YtllanbmpacgigaaGreatDoor
open Nat renaming reduceAdd→zq1,reduceLeDiff→zq2,reduceEqDiff→zq3,reduceLT→zq4
open Int renaming reduceToNat→zq5
set_option linter.unusedSimpArgs false
set_option linter.unusedVariables false
open Go.RowKit
section
variable {ρ:Fr} {w:World} {d:Option Nat} {next:Fr→World→Prop}
theorem O_ibs {K:Fr→World→Prop} {rest:List ML} {ty:TypeId} {ts:Array TypeId} (x y:Operand):O Tryz.prog K (⟨none,d,.raw (.call ⟨.value (.func 173),#[x,y],ts⟩) ty⟩ :: rest) ρ w=SemK Tryz.prog (Extern.BytealgIndexByte.indexByte #[ev ρ x,ev ρ y]) w d ρ (O Tryz.prog K rest):=by
  rw [O_raw]
  have hE:execOp (ev ρ) (opr (.call ⟨.value (.func 173),#[x,y],ts⟩) ty)=callFunc 173 #[ev ρ x,ev ρ y]:=by
    simp [execOp,resolve,Deferred.ofValue,invoke,ev]
  have h1:=run_callFunc_extern Tryz.func173 (by kernel_rfl) (by kernel_rfl) (by kernel_rfl) (e:=Extern.BytealgIndexByte.indexByte) (by kernel_rfl) #[ev ρ x,ev ρ y] w
  unfold RawK SemK
  rw [hE,h1]
  apply propext
  cases hr:(Extern.BytealgIndexByte.indexByte #[ev ρ x,ev ρ y]).run Tryz.prog w<;>simp
theorem ibK {s:Str} {n:Int} (c:UInt8) (h:next (updO ρ d (I (Lib.indexByte s c))) w) (hc:(c.toNat:Int)=n):SemK Tryz.prog (Extern.BytealgIndexByte.indexByte #[S s,.int .u8 n]) w d ρ next:=by
  subst hc
  refine ⟨_,w,(Lib.run_indexByteString _ _ _).trans ?_,h⟩
  congr 2
  simp
end
end Go.Proofs.YtllanbmpacgigaaGreatDoor
namespace Go.Proofs.YtllanbmpacgigaaGreatDoor
open Nat renaming reduceAdd→zq1,reduceLeDiff→zq2,reduceEqDiff→zq3,reduceLT→zq4
open Int renaming reduceToNat→zq5
set_option linter.unusedSimpArgs false
set_option linter.unusedVariables false
attribute [local irreducible] SemK UnitK StK AlcK BslK CallK CallV Instr.box Builtin.append_ Instr.makeSlice Instr.makeMap Instr.lookup Instr.mapUpdate Instr.sliceAt convert
open Go.RowKit
def c133:MC:=(.seq (.reg [qq 4 (.mv (ki 0))]) (.seq (.reg [qm 5 0,qm 6 1,qq 7 (.raw (.call ⟨(.value (.func 173)),#[(.tmp 5),(.tmp 6)],#[9,5]⟩) 3),qm 4 7]) .ret))
theorem k133:conv Tryz.prog 8 (Tryz.f133.body.getD .skip)=c133:=by kernel_rfl
theorem in133 {a0 a1:Value} {w:World} {R:Value→World→Prop} (h:G Tryz.prog Tryz.f133 8 [.c c133] R (frL 0 [a0,a1]) w):Ret Tryz.prog 133 #[a0,a1] w R:=G.enter (args:=[a0,a1]) Tryz.func133 (c:=Tryz.f133.body.getD .skip) (by kernel_rfl) (by kernel_rfl) (by simp) k133 h
theorem ib1_spec (f:Str) (c:UInt8) (n:Int) (hn:(c.toNat:Int)=n) (w:World):Pu Tryz.prog 133 #[S f,U n] w (I (Lib.indexByte f c)):=by
  refine in133 ?_
  have hS:=Sep.start w
  repeat' (first|((with_reducible apply G.a);exact rfl)|refine G.reg fun K hK=>?_|(with_reducible (refine hK _ _ ?_);clear hK K)|(with_reducible (refine hK _ ?_);clear hK K;intro wd hxd;have hS:=Sep.ext (by assumption) hxd)|((first|have hk:=hK|have hk:=hK2);clear hk;simp (disch:=(first|exact dis|fail)) only [push_cast,↓reduceIte,zq1,zq2,zq3,zq4,zq5,O_ibs])|((first|refine brO_mk ?_ ?_|refine brQ_mk ?_ ?_)<;>intro hb<;>(try simp only [Bool.not_eq_true',Bool.not_eq_false'] at hb)<;>have hc:=hb<;>(try simp only [hcs,reduceCtorEq] at hc)<;>(try (exfalso;omega))<;>simp only [hb]<;>clear hb)|(refine zalc ?_;intro gb wb hS)|(refine zbsl ?_;intro gb wb hS)|((with_reducible (show SemK _ (Instr.box _ _) _ _ _ _));refine zbox ?_;intro gb wb hS)|((with_reducible (show StK _ _ (Value.pointer _) _ _ _ _ _));refine zst ?_;intro wb hS;(try simp only [sets] at hS))|(refine zcv ?_)|(refine ibK c ?_ hn)|(refine G.drt mixed fun K hK wd hxd=>?_;have hS:=Sep.ext (by assumption) hxd)|with_reducible refine OT_leaf ?_|(with_reducible refine OT_tail fun K2 hK2=>?_)|(with_reducible (refine hK2 _ ?_);clear hK2 K2;intro wd hxd;have hS:=Sep.ext (by assumption) hxd)|with_reducible refine OT_br fun K2 hK2=>?_|(refine hK2 _ _ ?_ ?_<;>clear hK2 K2)|refine G.drg mixed fun K hK=>?_|(refine G.cond (by simp only [push_cast,↓reduceIte,zq1,zq2,zq3,zq4,zq5,O_ibs];rfl) ?_ ?_<;>intro hc<;>(try simp only [hcs,reduceCtorEq] at hc)<;>(try (exfalso;omega))))
  (first|refine G.r1 ?_|refine G.r2 ?_|refine G.r3 ?_|refine G.r0 ?_|refine G.d0 ?_);(try simp (disch:=first|exact dis|fail) only [push_cast,↓reduceIte,zq1,zq2,zq3,zq4,zq5,fct])
  exact Sep.xt (by assumption)
end Go.Proofs.YtllanbmpacgigaaGreatDoor
namespace Go.Proofs.YtllanbmpacgigaaGreatDoor
open Nat renaming reduceAdd→zq1,reduceLeDiff→zq2,reduceEqDiff→zq3,reduceLT→zq4
open Int renaming reduceToNat→zq5
set_option linter.unusedSimpArgs false
set_option linter.unusedVariables false
open Go.RowKit
def Tab (w : World) : Prop := Lib.TabIs Tryz.prog w "internal/strconv.uint64pow10" .u64 Lib.pow10Tab
theorem tab_glob : Tryz.prog.globalNamed "internal/strconv.uint64pow10" = some 1 := by kernel_rfl
theorem Tab.lt {w:World} (h:Tab w):1 < w.heap.size:=by
  unfold Tab Lib.TabIs World.var? at h
  rw [tab_glob] at h
  simp only [Option.bind_some] at h
  rcases Nat.lt_or_ge 1 w.heap.size with h0|h0
  · exact h0
  · rw [Array.getElem?_eq_none (by omega)] at h;simp at h
theorem Tab.ext {w w':World} (h:Tab w) (hx:Ext w w'):Tab w':=var?_below hx tab_glob h.lt h
end Go.Proofs.YtllanbmpacgigaaGreatDoor
namespace Go.Proofs.YtllanbmpacgigaaGreatDoor
open Nat renaming reduceAdd→zq1,reduceLeDiff→zq2,reduceEqDiff→zq3,reduceLT→zq4
open Int renaming reduceToNat→zq5
set_option linter.unusedSimpArgs false
set_option linter.unusedVariables false
open Go.RowKit Go.Shelf
theorem grow_ext (w:World) (k:Nat) (os:Array Obj):Ext w (Sort.grow (w.drewN k) os):=by
  refine ⟨rfl,rfl,rfl,?_,fun j hj=>?_⟩
  · simp [Sort.grow,World.drewN]
  · show (w.heap++os)[j]?=w.heap[j]?
    rw [Array.getElem?_append_left hj]
end Go.Proofs.YtllanbmpacgigaaGreatDoor
namespace Go.Proofs.YtllanbmpacgigaaGreatDoor
open Nat renaming reduceAdd→zq1,reduceLeDiff→zq2,reduceEqDiff→zq3,reduceLT→zq4
open Int renaming reduceToNat→zq5
set_option linter.unusedSimpArgs false
set_option linter.unusedVariables false
open Go.RowKit Go.Shelf
def lays171_ren:Go.Shelf.Ren:=⟨fun|171=>30|243=>52|246=>83|283=>121|284=>122|285=>123|286=>124|129=>162|317=>161|318=>163|319=>164|320=>165|337=>191|338=>192|n=>n,fun|3=>3|9=>9|2=>2|4=>4|171=>183|0=>0|53=>184|37=>65|5=>5|173=>187|212=>228|51=>229|20=>20|213=>230|46=>206|232=>265|233=>266|n=>n,fun|17=>1|18=>2|19=>3|n=>n⟩
theorem lays171:LaysM.n171 Tryz.prog lays171_ren where
  mixed:=by kernel_rfl
  f129:=Tryz.func162.trans (congrArg some (by kernel_rfl))
  f171:=Tryz.func30.trans (congrArg some (by kernel_rfl))
  f243:=Tryz.func52.trans (congrArg some (by kernel_rfl))
  f246:=Tryz.func83.trans (congrArg some (by kernel_rfl))
  f283:=Tryz.func121.trans (congrArg some (by kernel_rfl))
  f284:=Tryz.func122.trans (congrArg some (by kernel_rfl))
  f285:=Tryz.func123.trans (congrArg some (by kernel_rfl))
  f286:=Tryz.func124.trans (congrArg some (by kernel_rfl))
  f317:=Tryz.func161.trans (congrArg some (by kernel_rfl))
  f318:=Tryz.func163.trans (congrArg some (by kernel_rfl))
  f319:=Tryz.func164.trans (congrArg some (by kernel_rfl))
  f320:=Tryz.func165.trans (congrArg some (by kernel_rfl))
  f337:=Tryz.func191.trans (congrArg some (by kernel_rfl))
  f338:=Tryz.func192.trans (congrArg some (by kernel_rfl))
  t0:=Tryz.underlying0
  a0:=Tryz.isAgg0
  z0:=Tryz.sizeOf0
  v0:=Tryz.zeroValue0
  t2:=Tryz.underlying2
  a2:=Tryz.isAgg2
  z2:=Tryz.sizeOf2
  v2:=Tryz.zeroValue2
  t3:=Tryz.underlying3
  a3:=Tryz.isAgg3
  z3:=Tryz.sizeOf3
  v3:=Tryz.zeroValue3
  t4:=Tryz.underlying4
  a4:=Tryz.isAgg4
  z4:=Tryz.sizeOf4
  v4:=Tryz.zeroValue4
  t5:=Tryz.underlying5
  a5:=Tryz.isAgg5
  z5:=Tryz.sizeOf5
  v5:=Tryz.zeroValue5
  t9:=Tryz.underlying9
  a9:=Tryz.isAgg9
  z9:=Tryz.sizeOf9
  v9:=Tryz.zeroValue9
  t20:=Tryz.underlying20
  a20:=Tryz.isAgg20
  z20:=Tryz.sizeOf20
  v20:=Tryz.zeroValue20
  t37:=Tryz.underlying65
  a37:=Tryz.isAgg65
  z37:=Tryz.sizeOf65
  v37:=Tryz.zeroValue65
  t46:=Tryz.underlying206
  a46:=Tryz.isAgg206
  z46:=Tryz.sizeOf206
  v46:=Tryz.zeroValue206
  t51:=Tryz.underlying229
  a51:=Tryz.isAgg229
  z51:=Tryz.sizeOf229
  v51:=Tryz.zeroValue229
  t53:=Tryz.underlying184
  a53:=Tryz.isAgg184
  z53:=Tryz.sizeOf184
  v53:=Tryz.zeroValue184
  t171:=Tryz.underlying183
  a171:=Tryz.isAgg183
  z171:=Tryz.sizeOf183
  v171:=Tryz.zeroValue183
  t173:=Tryz.underlying187
  a173:=Tryz.isAgg187
  z173:=Tryz.sizeOf187
  v173:=Tryz.zeroValue187
  t212:=Tryz.underlying228
  a212:=Tryz.isAgg228
  z212:=Tryz.sizeOf228
  v212:=Tryz.zeroValue228
  t213:=Tryz.underlying230
  a213:=Tryz.isAgg230
  z213:=Tryz.sizeOf230
  t232:=Tryz.underlying265
  a232:=Tryz.isAgg265
  z232:=Tryz.sizeOf265
  v232:=Tryz.zeroValue265
  t233:=Tryz.underlying266
  a233:=Tryz.isAgg266
  z233:=Tryz.sizeOf266
  v233:=Tryz.zeroValue266
  g17:=by kernel_rfl
  g18:=by kernel_rfl
  g19:=by kernel_rfl
  i0:=by kernel_rfl
  i2:=by kernel_rfl
  i3:=by kernel_rfl
  i4:=by kernel_rfl
  i5:=by kernel_rfl
  i9:=by kernel_rfl
  i20:=by kernel_rfl
  i37:=by kernel_rfl
  i46:=by kernel_rfl
  i51:=by kernel_rfl
  i53:=by kernel_rfl
  i171:=by kernel_rfl
  i173:=by kernel_rfl
  i212:=by kernel_rfl
  i232:=by kernel_rfl
  i233:=by kernel_rfl
  m17:=by kernel_rfl
  m18:=by kernel_rfl
  m19:=by kernel_rfl
theorem itoa_spec (n:Int) (w:World) (h0:-9223372036854775808≤n) (h1:n≤9223372036854775807) (ht:Tab w):Pu Tryz.prog 30 #[I n] w (S (Lib.itoa n)) :=
  Calls.mono (Go.Proofs.Any.strconv_Itoa lays171 n h0 h1 w ht) fun e w' ⟨he,k,os,hw⟩=>⟨_,he,rfl,by rw [hw];exact grow_ext w k os⟩
theorem itoa_ln (i:Int) (h0:-9223372036854775808≤i) (h1:i≤9223372036854775807):(Lib.itoa i).length≤21:=Lib.itoa_length_le i h0 h1
end Go.Proofs.YtllanbmpacgigaaGreatDoor
namespace Go.Proofs.YtllanbmpacgigaaGreatDoor
open Nat renaming reduceAdd→zq1,reduceLeDiff→zq2,reduceEqDiff→zq3,reduceLT→zq4
open Int renaming reduceToNat→zq5
set_option linter.unusedSimpArgs false
set_option linter.unusedVariables false
open Go.RowKit Go.WideShapes Go.ChangeShapes
theorem tab_of {W : World} {l : List (String × DataW Unit)} (hp : (l.all fun x => x.2.handleName?.isNone) = true) (hl : l.filter (fun x => x.1 == "internal/strconv.uint64pow10") = [("internal/strconv.uint64pow10", Lib.tabData .u64 Lib.pow10Tab)])
    (h:laidMetH Tryz.prog l W):Tab W:=by
  rw [MakeChecks.laidMetH_plain _ _ _ hp] at h
  have h2 := h.filter fun x => x.1 == "internal/strconv.uint64pow10"
  rw [hl] at h2
  exact Lib.tabIs_of_head tab_glob (show (Tryz.prog.globals[1]?).map (·.type)=some 228 by kernel_rfl) Tryz.underlying228 Tryz.underlying184 (by kernel_rfl) (by kernel_rfl) h2
end Go.Proofs.YtllanbmpacgigaaGreatDoor
