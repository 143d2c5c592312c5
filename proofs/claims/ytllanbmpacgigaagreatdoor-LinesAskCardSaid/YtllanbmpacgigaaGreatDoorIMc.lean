/- Texts of the proof, joined. -/
import Derived.Below
import Derived.ChangeSame
import Derived.ProofKit
import Derived.OpenShut
import Derived.ShutString
import Derived.Test.YtllanbmpacgigaaGreatDoorProg
import Derived.Deep.Slices
import Derived.ChangeArms
import Derived.Carry
import Derived.Orders
import Derived.StillTail
import Derived.Deep.Quiet
import Derived.Lib.SliceRun
import Derived.Lib.Builder
import Derived.Lib.UnsafeStr
import Derived.Laws.Externs
import Derived.LaidEql
import Derived.Lib.Bytealg
import Derived.Lib.ItoaNum
import Derived.WalkSmall
import Derived.Shelf.Strconv.Itoa4
import Derived.Lib.ItoaLen
import Derived.Shelf.Strconv.AppendIntPublic10
import Derived.Shelf.Strings.OnBuilder
import Derived.SizedLaws
import Derived.LaidSub
import Derived.MakeChecks
import Derived.Lib.LaidTab
import Derived.Test.YtllanbmpacgigaaGreatDoorIMb
namespace Go.Proofs.YtllanbmpacgigaaGreatDoor
open Operand renaming tmp→Y,const→yc
open MC renaming seq→Z,reg→yr,skip→yk,cond→yd
open MO renaming call→yl,bin→yb
open Nat renaming reduceAdd→zq1,reduceLeDiff→zq2,reduceEqDiff→zq3,reduceLT→zq4
open Int renaming reduceToNat→zq5
set_option linter.unusedSimpArgs false
set_option linter.unusedVariables false
open Go.RowKit Go.WideShapes Go.ChangeShapes
section
variable {H:Type} {enc:TypeId×Value→H} {P:Program}
theorem post_of_below {f:Func} {s:ChangeSpec} {apart fresh handsOn again:Bool} {W W':World} {args:Array Value} {v:Value} {ds gs:List (DataW H)} {before pa pv:List MemPlace}
 (hW:DataW.Whole enc P f.params.toList s.vars apart W args.toList ds gs before)
 (hres:∀ (b:Nat) (sp:Nat→Bool) (hd:Bool),DataW.TrodAll enc P W' b sp hd f.resultTypes.toList (v.resultList f.resultTypes.size) (s.fn H (ds++gs)).results [])
 (hargs:∀ sp:Nat→Bool,(∀ p∈before,sp p.block=true)→DataW.TrodAll enc P W' 0 sp true f.params.toList args.toList (s.fn H (ds++gs)).args pa)
 (hvars:∀ sp:Nat→Bool,(∀ p∈before,sp p.block=true)→DataW.TrodVars enc P W' sp s.vars (s.fn H (ds++gs)).vars pv)
 (hps:before=pa++pv) (hb:Below W.heap.size W W')
 (hok:∀ (j:Nat) (t:TypeId) (r:Value),f.resultTypes[j]?=some t→(v.resultList f.resultTypes.size)[j]?=some r→Value.okWide P W' .any 0 t r) :
 s.post enc P f apart fresh handsOn again W args v W':=by
 have hlt:∀ p∈before,p.block < W.heap.size:=fun p hp=>hW.lt p hp
 have hold:∀ p∈before,(fun b=>decide (b < W.heap.size)) p.block=true:=fun p hp=>by simpa using hlt p hp
 refine ⟨ds,gs,before,[],pa,pv,hW,hres _ _ _,hargs _ hold,hvars _ hold,World.keptBut_mono (fun p hp=>⟨hp,?_⟩) (hb.frame (·∈before)),fun _=>?_⟩
 ·rw [hps,List.mem_append] at hp
  exact Or.inr hp
 ·obtain ⟨_,_,_,_,_,hz,hn⟩:=hW
  refine ⟨hok,_,_,([]++pa)++pv,⟨[]++pa,pv,trodAll_append (hargs _ (fun _ _=>rfl)) (hres _ _ _),hvars _ (fun _ _=>rfl),rfl,?_,?_⟩,?_⟩
  ·intro b off hp
   have hin:MemPlace.cell b off∈before:=by rw [hps];simpa using hp
   rw [hb.frozen (hlt _ hin)]
   exact hz b off hin
  ·intro ha
   have:=hn ha
   rw [hps] at this
   simpa using this
  ·intro p hp _
   rw [hps]
   simpa using hp
end
theorem u8_wf {a:Int} (h:(Lit.int .u8 a).wf=true):0≤a∧a≤255:=by
 have h2:IntKind.u8.min≤a∧a≤IntKind.u8.max:=by simpa [Lit.wf] using h
 exact h2
theorem len_wf {a:ByteArray} (h:a.size≤maxLen):a.data.toList.length≤9223372036854775807:=h
theorem walk_of {P:Program} {f:Nat} {args:Array Value} {w:World} {X:Value} (h:Pu P f args w X):Calls P f args w fun e w'=>e=.returned X∧Below w.heap.size w w':=by
 exact Calls.mono h fun e w' ⟨v,he,hv,hx⟩=>⟨by rw [he,hv],hx⟩
open Go.RowKit
variable {D:List Deferred}
def RV (P:Program) (ρ:Fr) (w:World):ResultVar→Value→Prop
 | .tmp t,v=>ρ t=v
 | .cell s t,v=>∃ q,ρ s=.pointer (some q)∧(loadVar t q).run P w=.ok v w
section
variable {P:Program} {fn:Func} {n:Nat} {ρ:Fr} {w:World} {r:List MI} {R:Value→World→Prop} {r1 r2 r3 r4:ResultVar} {v1 v2 v3 v4:Value}
theorem RV.tmp {t:Nat}:RV P ρ w (.tmp t) (ρ t):=rfl
theorem RV.agg {s t g bt:Nat} {xs:List Value} (hs:ρ s=.pointer (some ⟨g,0,none⟩)) (hb:Blk w g bt xs.toArray) (ht:aggN P t=some (some xs.length)):RV P ρ w (.cell s t) (.agg xs.toArray):=by
 obtain ⟨h1,j,h2,h3⟩:=run_isAgg_some (w:=w) ht
 have hl:(loadCells ⟨g,0,none⟩ xs.length).run P w=.ok xs.toArray w:=run_loadCells_list w _ xs fun j v hv=>by rw [add_blk,hb.cell];simpa using hv
 exact ⟨_,hs,by simp [loadVar,h1,sizeOf,typeInfo,h2,h3,hl]⟩
theorem RV.one {s t g bt:Nat} {x:Value} (hs:ρ s=.pointer (some ⟨g,0,none⟩)) (hb:Blk w g bt [x].toArray) (ht:aggN P t=some none):RV P ρ w (.cell s t) x:=by
 have h1:(isAgg t).run P w=.ok false w:=by
  unfold aggN at ht
  cases hu:P.underlying t with
  | none=>simp [hu] at ht
  | some d=>cases hi:P.info? t<;>cases d<;>simp [hu,hi] at ht<;>simp [isAgg,run_underlying hu]
 exact ⟨_,hs,by simp [loadVar,h1,hb.cell]⟩
def resF (tmps:Array Value):ResultVar→Sem Value
 | .tmp t=>pure (tmps.getD t undef)
 | .cell s t=>do loadVar t (←asAddr (tmps.getD s undef))
theorem results_eq (fn:Func) (tmps:Array Value):results fn tmps=(do let vs ←fn.results.mapM (resF tmps);pure (if h:vs.size=1 then vs[0] else .tuple vs)):=by
 unfold results
 congr 2
theorem rv_run {a:Act} (hr:Rel D n a ρ) (h:RV P ρ w r1 v1):(resF a.tmps r1).run P w=.ok v1 w:=by
 cases r1 with
 | tmp t=>simp only [resF,hr.2.2];simp only [RV] at h;rw [h];rfl
 | cell s t =>
   obtain ⟨q,h1,h2⟩:=h
   simp only [resF,hr.2.2,h1,asAddr,Sem.run_bind,Sem.run_pure,Result.andThen_ok,h2]
theorem G.rv1 (hf:fn.results=#[r1]) (h1:RV P ρ w r1 v1) (h:R v1 w):G P fn n (.c .ret :: r) R ρ w:=ret_of (fun a hr=>by
 have e1:=rv_run hr h1
 rw [results_eq,hf]
 simp [e1]) h
theorem G.rv2 (hf:fn.results=#[r1,r2]) (h1:RV P ρ w r1 v1) (h2:RV P ρ w r2 v2) (h:R (.tuple #[v1,v2]) w):G P fn n (.c .ret :: r) R ρ w:=ret_of (fun a hr=>by
 have e1:=rv_run hr h1
 have e2:=rv_run hr h2
 rw [results_eq,hf]
 simp [e1,e2]) h
theorem G.rv3 (hf:fn.results=#[r1,r2,r3]) (h1:RV P ρ w r1 v1) (h2:RV P ρ w r2 v2) (h3:RV P ρ w r3 v3) (h:R (.tuple #[v1,v2,v3]) w):G P fn n (.c .ret :: r) R ρ w:=ret_of (fun a hr=>by
 have e1:=rv_run hr h1
 have e2:=rv_run hr h2
 have e3:=rv_run hr h3
 rw [results_eq,hf]
 simp [e1,e2,e3]) h
end
theorem semK_val {P:Program} {s:Sem Value} {w w':World} {d:Option Nat} {ρ:Fr} {next:Fr→World→Prop} {v:Value} (h:s.run P w=.ok v w'):SemK P s w d ρ next=next (updO ρ d v) w' :=
 propext ⟨fun ⟨v',w'',h1,h2⟩=>by rw [h] at h1;cases h1;exact h2,fun h2=>⟨_,_,h,h2⟩⟩
section
variable {P:Program} {d:Option Nat} {ρ:Fr} {w:World} {next:Fr→World→Prop} {a b:Int} {k:IntKind} {ts:Array TypeId} {ty t t':TypeId} {x y:Operand}
theorem maxK:SemK P (Builtin.max_ ts ty #[.int k a,.int k b]) w d ρ next=next (updO ρ d (.int k (max a b))) w:=by
 have h:(Builtin.max_ ts ty #[.int k a,.int k b]).run P w=.ok (.int k (max a b)) w:=by
  simp only [Builtin.max_,List.foldlM_cons,List.foldlM_nil,Builtin.max2,Sem.run_bind,Sem.run_pure,Result.andThen_ok]
  congr 2
  simp only [Int.max_def]
  split<;>split<;>omega
 exact semK_val h
theorem minK:SemK P (Builtin.min_ ts ty #[.int k a,.int k b]) w d ρ next=next (updO ρ d (.int k (min a b))) w:=by
 have h:(Builtin.min_ ts ty #[.int k a,.int k b]).run P w=.ok (.int k (min a b)) w:=by
  simp only [Builtin.min_,List.foldlM_cons,List.foldlM_nil,Builtin.min2,Sem.run_bind,Sem.run_pure,Result.andThen_ok]
  congr 2
  simp only [Int.min_def]
  split<;>split<;>omega
 exact semK_val h
theorem mkfK {fn:Fn} {xs ys:Array Value}:SemK P (Instr.makeFunc fn xs ys) w d ρ next=next (updO ρ d (.func fn xs ys)) w:=semK_val (by simp [Instr.makeFunc])
def isNil:Value→Bool
 | .slice none _ _|.map none|.pointer none|.nilFunc=>true
 | _=>false
theorem eq_nilS {v:Value} {e:TypeId} (hu:P.underlying t=some (.slice e)) (hv:isL v=True):(Op.equal t v (.slice none 0 0)).run P w=.ok (isNil v) w:=by
 cases v<;>simp [isL] at hv
 rename_i a n c
 have e0:∀ dd,(Op.equalIn (dd+1) t (.slice a n c) (.slice none 0 0)).run P w=.ok (isNil (.slice a n c)) w:=fun dd=>by
  cases a<;>simp [Op.equalIn,run_underlying hu,isNil]
 simpa [Op.equal,Op.maxDepth] using e0 9999
theorem eq_nilP {p:Option Addr} {e:TypeId} (hu:P.underlying t=some (.pointer e)):(Op.equal t (.pointer p) (.pointer none)).run P w=.ok (isNil (.pointer p)) w:=by
 have e0:∀ dd,(Op.equalIn (dd+1) t (.pointer p) (.pointer none)).run P w=.ok (isNil (.pointer p)) w:=fun dd=>by
  cases p<;>simp [Op.equalIn,run_underlying hu,isNil]
 simpa [Op.equal,Op.maxDepth] using e0 9999
theorem nilS_e {v:Value} {e:TypeId} {sz bt:Nat} {zs:List Value} (hu:SlT P t e sz bt zs) (hv:isL v=True) (h:next (updO ρ d (.bool (isNil v))) w):SemK P (do eqGuard .eql t x y v (.slice none 0 0);binOp .eql t v (.slice none 0 0)) w d ρ next:=by
 have h1:=eq_nilS (w:=w) hu.u hv
 cases v<;>simp [isL] at hv
 exact ⟨_,w,by simp [eqGuard,binOp,h1],h⟩
theorem nilS_n {v:Value} {e:TypeId} {sz bt:Nat} {zs:List Value} (hu:SlT P t e sz bt zs) (hv:isL v=True) (h:next (updO ρ d (.bool (!(isNil v)))) w):SemK P (do eqGuard .neq t x y v (.slice none 0 0);binOp .neq t v (.slice none 0 0)) w d ρ next:=by
 have h1:=eq_nilS (w:=w) hu.u hv
 cases v<;>simp [isL] at hv
 exact ⟨_,w,by simp [eqGuard,binOp,h1],h⟩
theorem nilP_e {p:Option Addr} {e:TypeId} (hu:PtT P t e) (h:next (updO ρ d (.bool (isNil (.pointer p)))) w):SemK P (do eqGuard .eql t x y (.pointer p) (.pointer none);binOp .eql t (.pointer p) (.pointer none)) w d ρ next :=
 ⟨_,w,by simp [eqGuard,binOp,eq_nilP hu.u],h⟩
theorem nilP_n {p:Option Addr} {e:TypeId} (hu:PtT P t e) (h:next (updO ρ d (.bool (!(isNil (.pointer p))))) w):SemK P (do eqGuard .neq t x y (.pointer p) (.pointer none);binOp .neq t (.pointer p) (.pointer none)) w d ρ next :=
 ⟨_,w,by simp [eqGuard,binOp,eq_nilP hu.u],h⟩
theorem isNil_p {a:Addr}:isNil (.pointer (some a))=false:=rfl
theorem isNil_pn:isNil (.pointer none)=true:=rfl
theorem isNil_sn {n c:Nat}:isNil (.slice none n c)=true:=rfl
theorem i64_add (h:-9223372036854775808≤a+b∧a+b≤9223372036854775807):IntKind.i64.wrap (a+b)=a+b:=IntWalk.i64_in _ h
theorem i64_sub (h:-9223372036854775808≤a - b∧a - b≤9223372036854775807):IntKind.i64.wrap (a - b)=a - b:=IntWalk.i64_in _ h
theorem i64_id (h:-9223372036854775808≤a∧a≤9223372036854775807):IntKind.i64.wrap a=a:=IntWalk.i64_in _ h
theorem u8_id (h:0≤a∧a≤255):IntKind.u8.wrap a=a:=IntWalk.u8_in _ h
end
section
variable {α:Type} {w:World} {e:Enc α} {v:Value} {xs:List α} {k k':IntKind} {a b:Int} {n:Nat}
theorem Rd.slh (h:Rd w e v xs) (hs:e.sz=n) (hb:0≤b∧b≤(xs.length:Int)):Rd w e (slVV n none (some (.int k b)) v) (xs.take b.toNat):=by
 obtain ⟨p,cap,rfl,h2,h3,h4,h5⟩:=h
 have hl:(xs.take b.toNat).length=b.toNat:=by simp;omega
 refine ⟨if cap=0 then p else p.map (·.add 0),cap,?_,by omega,by omega,fun u hu=>h4 u ?_,fun h0=>?_⟩
 ·simp [slVV,loN,hiN,hl]
 ·obtain ⟨x,hx,hu⟩:=List.mem_flatMap.1 hu
  exact List.mem_flatMap.2 ⟨x,List.mem_of_mem_take hx,hu⟩
 ·obtain ⟨a,ha,hc⟩:=h5 zo
  refine ⟨a,by simp [ha,add_0],fun j u hj=>hc j u ?_⟩
  have e1:xs=xs.take b.toNat++xs.drop b.toNat:=(List.take_append_drop _ xs).symm
  rw [e1,List.flatMap_append,List.getElem?_append_left]
  ·exact hj
  ·rcases Nat.lt_or_ge j ((xs.take b.toNat).flatMap e.f).length with q|q
   ·exact q
   ·rw [List.getElem?_eq_none q] at hj;cases hj
theorem Rd.sll (h:Rd w e v xs) (hs:e.sz=n) (hp:0 < n) (hb:0≤a∧a≤(xs.length:Int)):Rd w e (slVV n (some (.int k a)) none v) (xs.drop a.toNat):=by
 subst hs
 obtain ⟨p,cap,rfl,h2,h3,h4,h5⟩:=h
 have hl:(xs.drop a.toNat).length=xs.length - a.toNat:=by simp
 refine ⟨if cap=a.toNat then p else p.map (·.add (a.toNat * e.sz)),cap - a.toNat,?_,by omega,by omega,fun u hu=>h4 u ?_,fun h0=>?_⟩
 ·simp only [slVV,loN,hiN,hl,Int.toNat_natCast]
  by_cases hq:cap=a.toNat<;>simp [hq]
 ·obtain ⟨x,hx,hu⟩:=List.mem_flatMap.1 hu
  exact List.mem_flatMap.2 ⟨x,List.mem_of_mem_drop hx,hu⟩
 ·obtain ⟨q,ha,hc⟩:=h5 zo
  have hsp:q.spot=none:=by
   have h0:(xs.flatMap e.f)[0]?=some ((xs.flatMap e.f)[0]'(by rw [flat_len];exact Nat.mul_pos zo zo)):=List.getElem?_eq_getElem _
   have:=hc _ _ h0
   simpa [Addr.add] using cell_spot this
  have hne:¬ cap=a.toNat:=by omega
  refine ⟨q.add (a.toNat * e.sz),by simp [ha,hne],fun j u hj=>?_⟩
  rw [add_add _ _ _ hsp]
  refine hc _ u ?_
  have e1:xs=xs.take a.toNat++xs.drop a.toNat:=(List.take_append_drop _ xs).symm
  have e2:((xs.take a.toNat).flatMap e.f).length=a.toNat * e.sz:=by rw [flat_len,List.length_take,Nat.min_eq_left zo]
  rw [e1,List.flatMap_append,←e2,List.getElem?_append_right zo,Nat.add_sub_cancel_left]
  exact hj
theorem okSlV_h (h:Rd w e v xs) (hb:0≤b∧b≤(xs.length:Int)):okSlV none (some (.int k b)) v=True:=by
 obtain ⟨p,cap,rfl,h2,_⟩:=h
 simp only [okSlV,okI,loN,hiN,eq_iff_iff,iff_true,true_and]
 omega
theorem okSlV_l (h:Rd w e v xs) (hb:0≤a∧a≤(xs.length:Int)):okSlV (some (.int k a)) none v=True:=by
 obtain ⟨p,cap,rfl,h2,_⟩:=h
 simp only [okSlV,okI,loN,hiN,eq_iff_iff,iff_true,true_and]
 omega
end
theorem okNck_p {a:Addr}:okNck (.pointer (some a))=True:=rfl
theorem mget_s {β:Type} {enc:β→Value} {z:Value} {b:β}:mget enc z (some b)=enc b:=rfl
theorem mget_n {β:Type} {enc:β→Value} {z:Value}:mget enc z none=z:=rfl
attribute [push_cast] O_adA Q_adA okAdA_p adAV_p beq_self_eq_true bne_self_eq_false eq_self okNck_p mget_s mget_n Option.isSome_some Option.isSome_none O_nil O_gt O_call O_mv O_pick O_bin O_eqb O_eqA O_un O_cvi O_cvs O_b2s O_len O_lenS O_idxS O_adr O_ld O_fad O_fld O_ext O_slS O_slV O_nck O_bld Q_nil Q_gt Q_call Q_mv Q_pick Q_bin Q_eqb Q_eqA Q_un Q_cvi Q_cvs Q_b2s Q_len Q_lenS Q_idxS Q_adr Q_ld Q_fad Q_fld Q_ext Q_slS Q_slV Q_nck Q_bld upd_at decide_true decide_false Bool.and_true Bool.true_and Bool.and_false Bool.false_and Bool.or_false Bool.or_true Bool.true_or Bool.false_or Bool.and_self Bool.or_self Bool.false_eq_true frL ev updO okB_add okB_sub okB_mul okB_eql okB_neq okB_lss okB_leq okB_gtr okB_geq valB_add valB_sub valB_mul valB_quo valB_rem valB_eql valB_neq valB_lss valB_leq valB_gtr valB_geq okB_quo okB_rem okU_neg okU_not valU_neg valU_not eqbV_t eqbV_f cviV_i okE20 exV20 okE21 exV21 okE30 exV30 okE31 exV31 okE32 exV32 okE40 exV40 okE41 exV41 okE42 exV42 okE43 exV43 tdiv_pos tmod_pos isB_b isI_i Int.toNat_natCast Int.toNat_zero Int.toNat_one okB2s_1 okB2s_2 okB2s_3 okB2s_4 b2sV_1 b2sV_2 b2sV_3 b2sV_4 layL_n okLay_n evP_n evP_c List.set_cons_zero List.set_cons_succ okEqA_a okEqL_n okEqL_i okEqL_s okEqL_b eqAV_t eqAV_f eqL_n eqL_i eqL_s eqL_b isS_S lenV_S okIdxS_S idxSV_S okB_addS okB_eqlS okB_neqS okB_lssS okB_leqS okB_gtrS okB_geqS valB_addS valB_eqlS valB_neqS valB_lssS valB_leqS valB_gtrS valB_geqS okSlS_lh okSlS_l okSlS_h okSlS_n slSV_lh slSV_l slSV_h slSV_n pick_t pick_f pick_if Bool.true_eq_false wantF_b wantF_bf wantF_u Bool.not_true Bool.not_false brO_t brO_f brQ_t brQ_f not_true or_false false_and not_true_eq_false Option.map_some Option.map_none and_true true_and and_self List.map_cons List.map_nil List.size_toArray List.length_cons List.length_nil O_app O_cpy O_dlt O_max O_min O_clr O_len' O_cap O_mks O_mkm O_lkp O_box O_mkf O_men O_slc O_cnv O_idx O_ixa O_mkif O_tas O_mup O_est O_bop O_cv O_stK O_alcK O_bslK okFad_p fadV_p lenV_rd isL_rd okAdr_rd okLd1_rd ldV1_rd okLdN_rd ldVN_rd okFad_rd okLdF_rd ldVF_rd okLd_b ldV_b okLdN_b ldVN_b okFld_1 fldV_1 okFld_n fldV_n cells_agg setL_n setL_c layL_a okLay_a layL_o okLay_o eS_f eI_f eU_f eB_f eV_f List.getD_cons_zero List.getD_cons_succ List.drop_zero List.drop_succ_cons List.take_succ_cons List.take_zero List.take_nil List.drop_nil i64_add i64_sub i64_id u8_id maxK minK mkfK isNil_p isNil_pn isNil_sn okSlV_h okSlV_l
theorem pt15:PtT Tryz.prog 15 277:=⟨by kernel_rfl⟩
theorem pt16:PtT Tryz.prog 16 280:=⟨by kernel_rfl⟩
theorem pt17:PtT Tryz.prog 17 288:=⟨by kernel_rfl⟩
theorem sl22:SlT Tryz.prog 22 9 1 16 [(S [])]:=.of zf
theorem pt25:PtT Tryz.prog 25 55:=⟨by kernel_rfl⟩
theorem sl40:SlT Tryz.prog 40 22 1 24 [(.slice none 0 0)]:=.of zf
theorem mp52:MapT Tryz.prog 52 9 9 (S []):=.of zf
theorem sl53:SlT Tryz.prog 53 121 3 32 [(S []),(.int .i64 0),(.bool false)]:=.of zf
theorem pt64:PtT Tryz.prog 64 67:=⟨by kernel_rfl⟩
theorem sl65:SlT Tryz.prog 65 5 1 1 [(.int .u8 0)]:=.of zf
theorem pt90:PtT Tryz.prog 90 5:=⟨by kernel_rfl⟩
theorem pt101:PtT Tryz.prog 101 156:=⟨by kernel_rfl⟩
theorem sl112:SlT Tryz.prog 112 124 1 24 [(.slice none 0 0)]:=.of zf
theorem sl115:SlT Tryz.prog 115 126 3 56 [(.int .i64 0),(.slice none 0 0),(.slice none 0 0)]:=.of zf
theorem sl124:SlT Tryz.prog 124 129 4 40 [(.int .i64 0),(S []),(.int .i64 0),(.bool false)]:=.of zf
theorem pt135:PtT Tryz.prog 135 192:=⟨by kernel_rfl⟩
theorem mp149:MapT Tryz.prog 149 9 4 (.bool false):=.of zf
theorem sl154:SlT Tryz.prog 154 161 2 16 [(.int .i64 0),(.int .i64 0)]:=.of zf
theorem sl168:SlT Tryz.prog 168 3 1 8 [(.int .i64 0)]:=.of zf
theorem mp169:MapT Tryz.prog 169 9 124 (.slice none 0 0):=.of zf
theorem pt194:PtT Tryz.prog 194 139:=⟨by kernel_rfl⟩
theorem sl225:SlT Tryz.prog 225 179 4 24 [(.int .u8 0),(.int .u8 0),(.int .i64 0),(.int .i64 0)]:=.of zf
theorem pt240:PtT Tryz.prog 240 262:=⟨by kernel_rfl⟩
theorem sl247:SlT Tryz.prog 247 39 3 16 [(.int .u8 0),(.int .u8 0),(.int .i64 0)]:=.of zf
theorem pt257:PtT Tryz.prog 257 269:=⟨by kernel_rfl⟩
theorem mp260:MapT Tryz.prog 260 9 3 (.int .i64 0):=.of zf
theorem pt273:PtT Tryz.prog 273 275:=⟨by kernel_rfl⟩
section
variable {P:Program} {t e:TypeId}
theorem slice_val {H:Type} {enc:TypeId×Value→H} {w:World} {base:Nat} {sp:Nat→Bool} {hd:Bool} {r:Reach} {b0:Nat} {v v':Value} {d:DataW H} {ps:List MemPlace} (ht:P.underlying t=some (.slice e)) (hval:Value.okWide P w r b0 t v) (hc:v.cells.toList=[v']):v=v':=by
 unfold Value.okWide at hval
 rw [ht] at hval
 simp only [Cell.okWide,ht,Cell.ok] at hval
 cases v<;>simp_all [Value.cells]
end
variable {D:List Deferred}
def O1 (P:Program) (m:ML) (next:Fr→World→Prop) (ρ:Fr) (w:World):Prop:=if gF ρ m.g=true then OS P m.d m.m ρ w next else next (updO ρ m.d undef) w
def OT (P:Program) (K:Fr→World→Prop):DT→Fr→World→Prop
 | .leaf ops,ρ,w=>O P K ops ρ w
 | .br ops a b,ρ,w=>O P (fun ρ' w'=>OT P K a ρ' w'∧OT P K b ρ' w') ops ρ w
 | .tail l p,ρ,w=>Q P (fun ρ'=>∀ w',Ext w w'→O P K p ρ' w') w l ρ
 | .inv l ds,ρ,w=>∃ J:(Nat→Bool)→Fr→World→Prop,J (fun _=>false) ρ w ∧
  (∀ b i m d ρ' w',l[i]?=some m→ds[i]?=some d→b i=false→(∀ e∈d,b e=true)→J b ρ' w'→O1 P m (J (fun j=>if j=i then true else b j)) ρ' w') ∧
  (∀ b ρ' w',(∀ i d,ds[i]?=some d→b i=false→∃ e∈d,b e=false)→J b ρ' w'→K ρ' w')
section
variable {P:Program} {ops:Array Oper} {md:Region.Mode} {C:World→Prop}
def anyHead (P:Program) (md:Region.Mode) (ops:Array Oper) (C:World→Prop) (n:Nat) (L:Array Bool→Act→Prop):Nat→Array Bool→Act→Prop
 | 0,listed,a=>L listed a
 | f+1,listed,a=>Region.ready md ops listed≠[]∧∀ i∈Region.ready md ops listed,i < n∧qOp P ops C i (anyHead P md ops C n L f (listed.setIfInBounds i true)) a
theorem any_of_head {n g:Nat} {L:Array Bool→Act→Prop} {R:Exit→Act→World→Prop} (hL:∀ listed a w,C w→L listed a→wpAny P md ops R g listed a w) :
 ∀ (f:Nat) (listed:Array Bool) (a:Act) (w:World),C w→anyHead P md ops C n L f listed a→wpAny P md ops R (f+g) listed a w
 | 0,listed,a,w,hw,h=>by rw [Nat.zero_add];exact hL _ _ _ hw h
 | f+1,listed,a,w,hw,h=>by
   rw [show f+1+g=(f+g)+1 by omega]
   exact ⟨fun h0=>absurd h0 h.1,fun i hi=>wpOp_of_qOp hw (fun a' w' hw' h'=>any_of_head hL f _ a' w' hw' h') (h.2 i hi).2⟩
theorem head_first {n i:Nat} {oi:Oper} {v:Value} {L:Array Bool→Act→Prop} (hi:ops[i]?=some oi) (hsel:∀ (j:Nat) (o:Oper) cs b,ops[j]?=some o→o.op≠.select cs b)
 (hs:Region.sinkB md ops n=true) (hc:Region.chainB md ops n=true) (hn:n < ops.size) (hin:i < n) (hdone:∀ listed a,L listed a→∀ j∈Region.ready md ops listed,n≤j) :
 ∀ (f:Nat) (listed:Array Bool) (a:Act),HeadInv md ops n listed →
   (∀ j oj,ops[j]?=some oj→j≠i→listed.getD j true=false→(∀ e∈oj.after,Region.binds md e=true→e.on≠i)→oi.apart ops oj=true) →
   i∈Region.ready md ops listed→YieldsIn P ops C oi v a→anyHead P md ops C n L f (listed.setIfInBounds i true) (a.put oi.dst v)→anyHead P md ops C n L (f+1) listed a:=by
 intro f
 induction f with
 | zero =>
   intro listed a inv _ hr hy H
   have hun:=(mem_ready.1 hr).1
   refine ⟨fun h=>(by rw [h] at hr;cases hr),fun j hj=>?_⟩
   have hjn:j < n:=(Nat.lt_or_ge j n).resolve_right fun h=>tail_waits hs hc hn inv _ i rfl hin hun j h hj
   refine ⟨hjn,?_⟩
   by_cases hji:j=i
   ·subst hji;exact hy.qOp hi H
   ·have:=hdone _ _ H j (ready_mono hj hji)
    omega
 | succ f ih =>
   intro listed a inv hfree hr hy H
   have hun:=(mem_ready.1 hr).1
   refine ⟨fun h=>(by rw [h] at hr;cases hr),fun j hj=>?_⟩
   have hjn:j < n:=(Nat.lt_or_ge j n).resolve_right fun h=>tail_waits hs hc hn inv _ i rfl hin hun j h hj
   refine ⟨hjn,?_⟩
   by_cases hji:j=i
   ·subst hji;exact hy.qOp hi H
   ·have h1:=(H.2 j (ready_mono hj hji)).2
    obtain ⟨hjun,oj,hoj,hall⟩:=mem_ready.1 hj
    have hnot:∀ e∈oj.after,Region.binds md e=true→e.on≠i:=fun e he hb heq=>by
     have h1:=hall e he hb
     rw [heq,getD_both hun] at h1
     cases h1
    have h2:=qOp_put hoj (hfree j oj hoj hji hjun hnot) (fun cs b=>hsel i oi cs b hi) (fun cs b=>hsel j oj cs b hoj) hy h1
    refine qOp_mono (fun a' h3=>ih (listed.setIfInBounds j true) a' (inv.set hj hjn) (fun k ok hk hki hun hno=>?_) (ready_mono hr (Ne.symm hji)) h3.1 ?_) h2
    ·refine hfree k ok hk hki ?_ hno
     by_cases hjk:j=k
     ·subst hjk;exact hjun
     ·rw [getD_set_ne true hjk] at hun;exact hun
    ·rw [Array.setIfInBounds_comm _ _ hji]
     exact h3.2
theorem head_lex {n g:Nat} {Lq:Act→Prop} (hsel:Region.noSelect ops=true) (hs:Region.sinkB md ops n=true) (hc:Region.chainB md ops n=true) (hn:n < ops.size) :
 ∀ (l:List Oper) (k:Nat) (listed:Array Bool) (a:Act),(∀ j,j < l.length→l[j]?=ops[k+j]?)→k+l.length=n→HeadInv md ops n listed →
 Region.lexHead md ops g l.length k listed=true→wpQuiet P ops C Lq l a→anyHead P md ops C n (fun listed' a'=>Region.seqB md ops g n listed'=true∧Lq a') l.length listed a
 | [],k,listed,a,_,hk,_,hB,h=>by
   have:k=n:=by simpa using hk
   subst this
   exact ⟨by simpa [Region.lexHead] using hB,h⟩
 | o :: l,k,listed,a,hl,hk,inv,hB,h=>by
   have h0:ops[k]?=some o:=by simpa using (hl 0 ze).symm
   simp only [List.length_cons,Region.lexHead,Bool.and_eq_true] at hB
   obtain ⟨⟨hr,hf⟩,hB'⟩:=hB
   have hkn:k < n:=by simp only [List.length_cons] at hk;omega
   have hr':k∈Region.ready md ops listed:=by simpa using hr
   have hst:qOp P ops C k (wpQuiet P ops C Lq l) a:=by unfold qOp;simp only [h0];exact h
   obtain ⟨v,hy,hK⟩:=yieldsIn_of_qOp h0 hst
   exact head_first h0 (Region.noSelect_spec hsel) hs hc hn hkn (fun listed' a' hL=>seqB_ready hL.1) l.length listed a inv (Region.free_spec h0 hf) hr' hy
    (head_lex hsel hs hc hn l (k+1) _ _ (fun j hj=>by have:=hl (j+1) (by simp;omega);simpa [Nat.add_assoc,Nat.add_comm 1 j] using this) (by simp only [List.length_cons] at hk;omega) (inv.set hr' hkn) hB' hK)
theorem wp_quiet_tail {id:Nat} {R:Exit→Act→World→Prop} {a:Act} {w:World} (n:Nat) (hm:P.follows .mixedOrders=true) (hB:Region.lexTailB .any ops n=true) (hC:C { w with drawn:=w.drawn+1 })
 (h:wpQuiet P ops C (fun a'=>∀ w',C w'→wpList P ops R (ops.toList.drop n) a' w') (ops.toList.take n) a):(Code.region id ops true).wp P R a w:=by
 simp only [Region.lexTailB,Bool.and_eq_true,decide_eq_true_eq] at hB
 obtain ⟨⟨⟨⟨hsel,hn⟩,hs⟩,hc⟩,hlex⟩:=hB
 have hn':n < ops.toList.length:=by simpa using hn
 have htl:(ops.toList.take n).length=n:=by rw [List.length_take];omega
 have hdl:(ops.toList.drop n).length=ops.size - n:=by simp
 have inv0:HeadInv .any ops n (Array.replicate ops.size false) :=
  ⟨by simp,fun j oj _ hl=>(by rw [getD_replicate_false] at hl;cases hl),fun t _ ht=>getD_in (by simpa using ht) (getD_replicate_false _ _)⟩
 have H:=head_lex (md:=.any) (g:=ops.size - n) hsel hs hc hn (ops.toList.take n) 0 _ a (fun j hj=>by
  have hj':j < n:=by rw [htl] at hj;exact hj
  rw [List.getElem?_take,if_pos hj'];simp) (by simpa using htl) inv0 (by rw [htl];exact hlex) h
 refine wp_region_any hm ?_
 have:=any_of_head (R:=R) (g:=ops.size - n) (fun listed a' w' hw' hL=>by
  have:=wpAny_of_seq (md:=.any) (Q':=R) (ops.toList.drop n) n listed a' w' (fun j=>by simp [List.getElem?_drop]) (by rw [hdl];exact hL.1) (hL.2 w' hw')
  rwa [hdl] at this) _ _ _ _ hC H
 rw [htl,show n+(ops.size - n)=ops.size by omega] at this
 exact this
end
section
variable {P:Program} {K:Fr→World→Prop} {ρ:Fr} {w:World} {n:Nat}
theorem OT_leaf {ops:List ML} (h:O P K ops ρ w):OT P K (.leaf ops) ρ w:=h
theorem OT_br {ops:List ML} {a b:DT} (h:∀ K2:Fr→World→Prop,(∀ ρ w,OT P K a ρ w→OT P K b ρ w→K2 ρ w)→O P K2 ops ρ w):OT P K (.br ops a b) ρ w:=h _ fun _ _ h1 h2=>⟨h1,h2⟩
theorem OT_cons {m:ML} {t:DT}:OT P K (t.cons m) ρ w↔O1 P m (OT P K t) ρ w:=by
 cases t with
 | leaf _=>exact Iff.rfl
 | br _ _ _=>exact Iff.rfl
 | tail l p=>simp only [DT.cons,OT,and_self];exact Iff.rfl
 | inv l p=>simp only [DT.cons,OT,and_self];exact Iff.rfl
theorem OT_tail {l p:List ML} (h:∀ K2:Fr→Prop,(∀ ρ',(∀ w',Ext w w'→O P K p ρ' w')→K2 ρ')→Q P K2 w l ρ):OT P K (.tail l p) ρ w:=h _ fun _ h=>h
theorem ready_nil {ops:Array Oper} {listed:Array Bool} (h:(Region.ready .any ops listed).isEmpty=true):Region.ready .any ops listed=[]:=by simpa using h
theorem O1_wpOp {ops:Array Oper} {i:Nat} {o:Oper} {a:Act} {next:Fr→World→Prop} {Q:Exit→Act→World→Prop} (hi:ops[i]?=some o) (ho:okOp n ops o=true) (hr:Rel D n a ρ) (h:O1 P (cop P ops o) next ρ w) :
 wpOp P ops Q i (fun a' w'=>∃ ρ',Rel D n a' ρ'∧next ρ' w') a w:=by
 have hd:∀ k,o.dst=some k→k < n:=by
  intro k hk
  simp only [okOp,hk,Bool.and_eq_true,decide_eq_true_eq] at ho
  exact ho.1
 have hw:=wanted_eq (P:=P) hr ops o ho
 unfold wpOp
 simp only [hi]
 rw [hw]
 unfold O1 at h
 by_cases hg:gF ρ (cop P ops o).g=true
 ·rw [if_pos hg] at h
  rw [if_pos hg]
  left
  exact OS_sound o next a _ hr hd h
 ·rw [if_neg hg] at h
  rw [if_neg hg]
  exact ⟨_,hr.put _ _ hd,h⟩
theorem fork_all {f:Nat→Option DT}:∀ {rs:List Nat} {t:DT},DT.fork f rs=some t→OT P K t ρ w→∀ i∈rs,∃ t',f i=some t'∧OT P K t' ρ w
 | [],t,h,_=>by simp [DT.fork] at h
 | [j],t,h,ht=>by
   intro i hi
   simp at hi;subst hi
   exact ⟨t,h,ht⟩
 | j :: j2 :: r,t,h,ht=>by
   simp only [DT.fork] at h
   split at h
   ·rename_i a b ha hb
    split at h
    ·simp at h;subst h
     obtain ⟨h1,h2⟩:OT P K a ρ w∧OT P K b ρ w:=ht
     intro i hi
     rcases List.mem_cons.1 hi with rfl|hi
     ·exact ⟨a,ha,h1⟩
     ·exact fork_all hb h2 i hi
    ·simp at h
   ·simp at h
theorem buildT_sound {ops:Array Oper} (hall:∀ o∈ops.toList,okOp n ops o=true) (hsel:Region.noSelect ops=true) :
 ∀ (fuel:Nat) (listed:Array Bool) (t:DT) (ρ:Fr) (a:Act) (w:World),buildT P ops fuel listed=some t→Rel D n a ρ→OT P K t ρ w →
   wpAny P .any ops (fun e a' w'=>e=.normal∧∃ ρ',Rel D n a' ρ'∧K ρ' w') fuel listed a w:=by
 have hmem:∀ {i:Nat} {o:Oper},ops[i]?=some o→okOp n ops o=true:=fun h=>hall _ (Array.mem_toList_iff.2 (Array.mem_of_getElem? h))
 intro fuel
 induction fuel with
 | zero =>
   intro listed t ρ a w h hr ht
   simp only [buildT] at h
   split at h
   ·rename_i he
    simp at h;subst h
    exact ⟨ready_nil he,rfl,ρ,hr,ht⟩
   ·simp at h
 | succ fuel ih =>
   intro listed t ρ a w h hr ht
   simp only [buildT] at h
   split at h
   ·rename_i he
    simp at h;subst h
    exact wpAny_done (ready_nil he) ⟨rfl,ρ,hr,ht⟩ _
   ·rename_i hne
    split at h
    ·rename_i i hf
     have h1:=List.find?_some hf
     have h2:=List.mem_of_find?_eq_some hf
     simp only [Bool.and_eq_true] at h1
     split at h
     ·rename_i o hi
      rw [hi] at h1
      simp only [Option.map_eq_some_iff] at h
      obtain ⟨t',ht',rfl⟩:=h
      rw [OT_cons] at ht
      have ho:=hmem hi
      have hd:∀ k,o.dst=some k→k < n:=by
       intro k hk
       simp only [okOp,hk,Bool.and_eq_true,decide_eq_true_eq] at ho
       exact ho.1
      have hw:=wanted_eq (P:=P) hr ops o ho
      unfold O1 at ht
      by_cases hg:gF ρ (cop P ops o).g=true
      ·rw [if_pos hg] at ht
       have hpure:pureM (cm P o)=true:=h1.2
       have hm:okM ρ w (cm P o)∧OT P K t' (updO ρ o.dst (vM ρ w (cm P o))) w:=by
        have e:OS P o.dst (cm P o) ρ w (OT P K t'):=ht
        have hwM:=(okM_pure (ρ:=ρ) (w:=w) hpure w).2.2
        revert e hwM hpure
        generalize cm P o=m
        intro hpure e hwM
        cases m<;>first|exact e|exact absurd hpure (by simp [pureM])
       refine wpAny_take (v:=vM ρ w (cm P o)) hi hsel h1.1 (by simpa using h2) (fun c a w hq=>by cases hq.1) (.inl ⟨by rw [hw];exact hg,fun w'=>?_⟩) (ih _ _ _ _ _ ht' (hr.put _ _ hd) hm.2)
       rw [hr.evalF]
       exact run_pure o hpure hm.1 w'
      ·rw [if_neg hg] at ht
       exact wpAny_take (v:=undef) hi hsel h1.1 (by simpa using h2) (fun c a w hq=>by cases hq.1) (.inr ⟨by rw [hw];simpa using hg,rfl⟩) (ih _ _ _ _ _ ht' (hr.put _ _ hd) ht)
     ·simp at h
    ·refine wpAny_all rfl (fun e=>hne (by simp [e])) fun i hi=>?_
     obtain ⟨t',h1,h2⟩:=fork_all h ht i hi
     split at h1
     ·rename_i o ho
      simp only [Option.map_eq_some_iff] at h1
      obtain ⟨t2,h3,rfl⟩:=h1
      rw [OT_cons] at h2
      refine wpOp_mono ?_ (O1_wpOp ho (hmem ho) hr h2)
      rintro a' w' ⟨ρ',hr',h4⟩
      exact ih _ _ _ _ _ h3 hr' h4
     ·simp at h1
theorem isAlc_spec {ops:Array Oper} {o:Oper} (h:isAlc P ops o=true) (ho:okOp n ops o=true):(∃ t,o.op=.alloc t)∧o.guard=none∧(cop P ops o).g=none∧∃ t z,cm P o=.alc t z:=by
 unfold isAlc at h
 split at h
 ·rename_i h1 h2 h3
  refine ⟨⟨_,h1⟩,?_,h2,_,_,h3⟩
  simp only [okOp,Bool.and_eq_true] at ho
  simp only [cop] at h2
  cases hg:o.guard with
  | none=>rfl
  | some p =>
    have h4:=ho.2
    simp only [hg] at h4
    obtain ⟨s,hs⟩:=Option.isSome_iff_exists.1 h4
    rw [hg,Option.bind_some,hs] at h2
    cases h2
 ·cases h
theorem take_takeWhile {α:Type} (p:α→Bool):∀ l:List α,l.take (l.takeWhile p).length=l.takeWhile p
 | []=>rfl
 | x :: l=>by
   by_cases h:p x=true
   ·rw [List.takeWhile_cons_of_pos h,List.length_cons,List.take_succ_cons,take_takeWhile p l]
   ·rw [List.takeWhile_cons_of_neg h];rfl
theorem of_takeWhile {α:Type} {p:α→Bool} {x:α}:∀ {l:List α},x∈l.takeWhile p→p x=true
 | [],h=>by cases h
 | y :: l,h=>by
   by_cases hp:p y=true
   ·rw [List.takeWhile_cons_of_pos hp] at h
    rcases List.mem_cons.1 h with rfl|h
    ·exact hp
    ·exact of_takeWhile h
   ·rw [List.takeWhile_cons_of_neg hp] at h;cases h
theorem O_monoP {K K':Fr→World→Prop} (h:∀ ρ w,K ρ w→K' ρ w):∀ (l:List ML),(∀ m∈l,plainM m.m=true)→∀ ρ w,O P K l ρ w→O P K' l ρ w
 | [],_,ρ,w,ho=>h _ _ ho
 | ⟨g,d,m⟩ :: l,hp,ρ,w,ho=>by
   have hm:=hp ⟨g,d,m⟩ ze
   have ih:=O_monoP h l fun x hx=>hp x (by simp [hx])
   unfold O at ho ⊢
   split
   ·rename_i hg
    rw [if_pos hg] at ho
    revert ho hm
    cases m<;>intro hm ho<;>first|exact ⟨ho.1,ih _ _ ho.2⟩|exact absurd hm (by simp [plainM])
   ·rename_i hg
    rw [if_neg hg] at ho
    exact ih _ _ ho
theorem treeX_sound {ops:Array Oper} {t:DT} {a:Act} (hall:∀ o∈ops.toList,okOp n ops o=true) (h:treeX P ops=some t) (hr:Rel D n a ρ) (ht:OT P K t ρ w) :
 wpAny P .any ops (fun e a' w'=>e=.normal∧∃ ρ',Rel D n a' ρ'∧K ρ' w') ops.size (Array.replicate ops.size false) a w:=by
 unfold treeX at h
 split at h
 ·simp at h
 rename_i x _
 split at h
 ·simp at h
 rename_i ox hox
 split at h
 ·rename_i hB
  simp only [Bool.and_eq_true,decide_eq_true_eq] at hB
  obtain ⟨⟨⟨⟨⟨h1,h2⟩,h3⟩,h4⟩,h5⟩,h6⟩:=hB
  split at h
  ·rename_i t1 t2 e1 e2
   simp only [Option.some.injEq] at h;subst h
   have hmem:∀ {i:Nat} {o:Oper},ops[i]?=some o→okOp n ops o=true:=fun h=>hall _ (Array.mem_toList_iff.2 (Array.mem_of_getElem? h))
   obtain ⟨⟨t',hop⟩,hg,hg2,tc,z,hm⟩:=isAlc_spec h2 (hmem hox)
   have hxs:x < ops.size:=(Array.getElem?_eq_some_iff.1 hox).1
   have hlen:(ops.toList.take (plainN P ops)).length=plainN P ops:=by rw [List.length_take,Array.length_toList];omega
   have hpl:∀ o∈ops.toList.take (plainN P ops),plainM (cm P o)=true:=fun o ho=>by
    rw [show ops.toList.take (plainN P ops)=ops.toList.takeWhile fun o=>plainM (cm P o) from take_takeWhile _ _] at ho
    exact of_takeWhile (p:=fun o=>plainM (cm P o)) ho
   have hLN:=listN_spec ops.size (plainN P ops) 0 (Array.replicate ops.size false)
   have hreadyN:∀ j∈Region.ready .any ops (listN ops.size (plainN P ops) 0 (Array.replicate ops.size false)),plainN P ops≤j:=fun j hj=>by
    have:=(mem_ready.1 hj).1
    rw [hLN.2] at this
    split at this
    ·cases this
    ·rename_i hc;simp only [Array.size_replicate] at hc;omega
   have hdx:∀ k,ox.dst=some k→k < n:=by
    intro k hk
    have ho:=hmem hox
    simp only [okOp,hk,Bool.and_eq_true,decide_eq_true_eq] at ho
    exact ho.1
   have hrun:∀ (a:Act),(execOp a.eval ox).run P w=.ok (.value (.pointer (some ⟨w.heap.size,0,none⟩))) (w.alloc (.cells z.toArray tc)):=fun a=>by
    have e:execOp a.eval ox=execOp (ev ρ) ox:=by unfold execOp;simp only [hop]
    rw [e]
    rcases run_cm (P:=P) (ρ:=ρ) (w:=w) ox (by rw [hm];trivial) with h7|⟨_,h7⟩
    ·rw [h7,hm];rfl
    ·rw [hm] at h7;exact absurd h7 (by simp [vM,undef])
   have hfin:=AU_any (P:=P) (ops:=ops) (w:=w) (wx:=w.alloc (.cells z.toArray tc)) (N:=plainN P ops) (x:=x) (dx:=ox.dst) (vx:=.pointer (some ⟨w.heap.size,0,none⟩))
    (LU:=fun l a=>l=listN ops.size (plainN P ops) 0 (Array.replicate ops.size false)∧∃ ρ,Rel D n a ρ∧OT P K t1 ρ w)
    (LF:=fun l a=>l=(listN ops.size (plainN P ops) 0 (Array.replicate ops.size false)).setIfInBounds x true∧∃ ρ,Rel D n a ρ∧OT P K t2 ρ (w.alloc (.cells z.toArray tc)))
    (R:=fun e a' w'=>e=.normal∧∃ ρ',Rel D n a' ρ'∧K ρ' w') (g:=ops.size - plainN P ops - 1)
    (fun K' a hK=>by
     unfold wpOp
     simp only [hox]
     rw [if_pos (by simp [Region.wanted,hg])]
     left
     unfold Oper.wp
     rw [hrun a,Oper.upon_value]
     exact hK)
    (fun l a hl=>by
     obtain ⟨rfl,ρ',hr',h8⟩:=hl
     have e:ops.size - plainN P ops - 1+1=ops.size - plainN P ops:=by omega
     rw [e]
     exact buildT_sound hall h1 _ _ _ _ _ _ e1 hr' h8)
    (fun l a hl=>by
     obtain ⟨rfl,ρ',hr',h8⟩:=hl
     exact buildT_sound hall h1 _ _ _ _ _ _ e2 hr' h8)
    (ops.toList.take (plainN P ops)).length (Array.replicate ops.size false) a
    (headU_lex ((Ext.refl w).alloc _) hox rfl hdx h1 h4 h5 h3 hreadyN
     (fun j hj=>by
      obtain ⟨hun,oj,hoj,hall'⟩:=mem_ready.1 hj
      have hjs:j < ops.size:=(Array.getElem?_eq_some_iff.1 hoj).1
      by_cases hjx:x=j
      ·omega
      ·rw [getD_set_ne true hjx,hLN.2] at hun
       split at hun
       ·cases hun
       ·rename_i hc;simp only [Array.size_replicate] at hc;omega)
     (ops.toList.take (plainN P ops)) 0 _ a ρ (fun j hj=>by
      rw [hlen] at hj
      rw [List.getElem?_take,if_pos hj,Nat.zero_add,Array.getElem?_toList]) (by rw [hlen,Nat.zero_add]) ⟨by simp,fun j oj _ hl=>(by rw [getD_replicate_false] at hl;cases hl),fun t' _ ht' _=>getD_in (by simpa using ht') (getD_replicate_false _ _)⟩ (getD_in (by simpa using hxs) (getD_replicate_false _ _)) (by rw [hlen];exact h6) (by rw [hlen])
     (fun o ho=>hpl o ho)
     (fun o ho=>hall o (List.mem_of_mem_take ho)) hr
     (O_monoP (fun ρ' w' ⟨g1,g2⟩ e=>by
      subst e
      refine ⟨g1,?_⟩
      rw [OT_cons] at g2
      unfold O1 at g2
      rw [if_pos (by rw [hg2];rfl)] at g2
      have e:(cop P ops ox).m=.alc tc z:=hm
      rw [e] at g2
      exact g2.2) _ (fun m hm=>by
       obtain ⟨o,ho,rfl⟩:=List.mem_map.1 hm
       exact hpl o ho) _ _ ht))
   have e:(ops.toList.take (plainN P ops)).length+(ops.size - plainN P ops - 1+1)=ops.size:=by rw [hlen];omega
   rw [e] at hfin
   exact hfin
  ·simp at h
 ·simp at h
theorem ready_inv {ops:Array Oper} {listed:Array Bool} {i:Nat} {o:Oper} (ho:ops[i]?=some o) (h1:listed.getD i true=false) (h2:∀ e∈depsOf o,listed.getD e false=true):i∈Region.ready .any ops listed :=
 mem_ready.2 ⟨h1,o,ho,fun e he hb=>h2 e.on (List.mem_map.2 ⟨e,List.mem_filter.2 ⟨Array.mem_toList_iff.2 he,hb⟩,rfl⟩)⟩
theorem inv_sound {ops:Array Oper} (hall:∀ o∈ops.toList,okOp n ops o=true) {J:(Nat→Bool)→Fr→World→Prop}
 (hs:∀ b i m d ρ' w',(ops.toList.map (cop P ops))[i]?=some m→(ops.toList.map depsOf)[i]?=some d→b i=false→(∀ e∈d,b e=true)→J b ρ' w'→O1 P m (J (fun j=>if j=i then true else b j)) ρ' w')
 (hf:∀ b ρ' w',(∀ i d,(ops.toList.map depsOf)[i]?=some d→b i=false→∃ e∈d,b e=false)→J b ρ' w'→K ρ' w') :
 ∀ (fuel:Nat) (listed:Array Bool) (ρ:Fr) (a:Act) (w:World),listed.size=ops.size→listed.toList.countP (fun x=>!x)≤fuel→Rel D n a ρ→J (fun j=>listed.getD j false) ρ w →
   wpAny P .any ops (fun e a' w'=>e=.normal∧∃ ρ',Rel D n a' ρ'∧K ρ' w') fuel listed a w:=by
 have hget:∀ {i:Nat} {o:Oper},ops[i]?=some o→(ops.toList.map (cop P ops))[i]?=some (cop P ops o)∧(ops.toList.map depsOf)[i]?=some (depsOf o):=fun {i o} h=>by
  have h2:ops.toList[i]?=some o:=by rw [Array.getElem?_toList];exact h
  rw [List.getElem?_map,List.getElem?_map,h2]
  exact ⟨rfl,rfl⟩
 have hfin:∀ (listed:Array Bool) (ρ:Fr) (w:World),listed.size=ops.size→Region.ready .any ops listed=[]→J (fun j=>listed.getD j false) ρ w→K ρ w:=by
  intro listed ρ w hsz h0 hj
  refine hf _ ρ w (fun i d hd hb=>?_) hj
  rw [List.getElem?_map,Option.map_eq_some_iff] at hd
  obtain ⟨o,ho,rfl⟩:=hd
  rw [Array.getElem?_toList] at ho
  have hi:i < ops.size:=(Array.getElem?_eq_some_iff.1 ho).1
  refine Classical.byContradiction fun hc=>?_
  have hm:=ready_inv (listed:=listed) ho (getD_in zo hb) (fun e he=>by
   cases hx:listed.getD e false with
   | true=>rfl
   | false=>exact absurd ⟨e,he,hx⟩ hc)
  rw [h0] at hm
  cases hm
 intro fuel
 induction fuel with
 | zero =>
   intro listed ρ a w hsz hc hr hj
   have h0:Region.ready .any ops listed=[]:=by
    rw [List.eq_nil_iff_forall_not_mem]
    intro i hi
    obtain ⟨h1,o,ho,_⟩:=mem_ready.1 hi
    have hi2:i < listed.size:=by have:=(Array.getElem?_eq_some_iff.1 ho).1;omega
    have h3:=List.countP_eq_zero.1 (Nat.le_zero.1 hc) listed[i] ze
    rw [Array.getD_eq_getD_getElem?,Array.getElem?_eq_getElem hi2] at h1
    simp at h1 h3
    rw [h1] at h3
    cases h3
   exact ⟨h0,rfl,ρ,hr,hfin listed ρ w hsz h0 hj⟩
 | succ fuel ih =>
   intro listed ρ a w hsz hc hr hj
   refine ⟨fun h0=>⟨rfl,ρ,hr,hfin listed ρ w hsz h0 hj⟩,fun i hi=>?_⟩
   obtain ⟨h1,o,ho,hd⟩:=mem_ready.1 hi
   have hi2:i < listed.size:=by have:=(Array.getElem?_eq_some_iff.1 ho).1;omega
   have h1':listed[i]=false:=by
    rw [Array.getD_eq_getD_getElem?,Array.getElem?_eq_getElem hi2] at h1
    simpa using h1
   obtain ⟨g1,g2⟩:=hget ho
   have h4:=hs _ i _ _ ρ w g1 g2 (by show listed.getD i false=false;rw [Array.getD_eq_getD_getElem?,Array.getElem?_eq_getElem hi2];simpa using h1') (fun e he=>by
    obtain ⟨e',he',rfl⟩:=List.mem_map.1 he
    obtain ⟨m1,m2⟩:=List.mem_filter.1 he'
    exact hd e' (Array.mem_toList_iff.1 m1) m2) hj
   refine wpOp_mono ?_ (O1_wpOp ho (hall _ (Array.mem_toList_iff.2 (Array.mem_of_getElem? ho))) hr h4)
   rintro a' w' ⟨ρ',hr',h5⟩
   refine ih _ ρ' a' w' (by simp [hsz]) ?_ hr' ?_
   ·rw [Array.toList_setIfInBounds,List.countP_set (by simpa using hi2)]
    have h6:0 < listed.toList.countP (fun x=>!x):=List.countP_pos_iff.2 ⟨listed[i],by simp,by rw [h1'];rfl⟩
    have h7:listed.toList[i]'(by simpa using hi2)=false:=by rw [Array.getElem_toList];exact h1'
    rw [h7]
    simp only [Bool.not_false,Bool.not_true,if_true,Bool.false_eq_true,if_false]
    omega
   ·have e:(fun j=>(listed.setIfInBounds i true).getD j false)=fun j=>if j=i then true else listed.getD j false:=by
     funext j
     by_cases hji:j=i
     ·subst hji
      rw [if_pos rfl,Array.getD_eq_getD_getElem?]
      simp [hi2]
     ·rw [if_neg hji,Array.getD_eq_getD_getElem?,Array.getD_eq_getD_getElem?,Array.getElem?_setIfInBounds_ne (Ne.symm hji)]
    rw [e]
    exact h5
theorem OT_inv {l:List ML} {ds:List (List Nat)} (J:(Nat→Bool)→Fr→World→Prop) (h0:J (fun _=>false) ρ w)
 (hs:∀ b i m d ρ' w',l[i]?=some m→ds[i]?=some d→b i=false→(∀ e∈d,b e=true)→J b ρ' w'→O1 P m (J (fun j=>if j=i then true else b j)) ρ' w')
 (hf:∀ b ρ' w',(∀ i d,ds[i]?=some d→b i=false→∃ e∈d,b e=false)→J b ρ' w'→K ρ' w'):OT P K (.inv l ds) ρ w:=⟨J,h0,hs,hf⟩
theorem G.drt {fn:Func} {r:List MI} {R:Value→World→Prop} {ops:List ML} {t:DT} (hm:P.follows .mixedOrders=true)
 (h:∀ K:Fr→World→Prop,(∀ ρ w,G P fn n r R ρ w→K ρ w)→∀ wd,Ext w wd→OT P K t ρ wd):G P fn n (.c (.drg ops (some t)) :: r) R ρ w:=fun k hk=>by
 obtain ⟨x,k',rfl,hx,hk'⟩:=corr_c hk
 obtain ⟨id,os,rfl,hall,hlex,rfl,ht⟩:=conv_drg hx
 have hb : (Region.noSelect os=true∧buildT P os os.size (Array.replicate os.size false)=some t)∨tailOf P os=some t∨treeX P os=some t∨t=.inv (os.toList.map (cop P os)) (os.toList.map depsOf):=by
  unfold treeOf at ht
  split at ht
  ·simp at ht
  ·rename_i h0
   simp only [Bool.or_eq_true,not_or,Bool.not_eq_true,Bool.not_eq_false'] at h0
   replace h0:=h0.1
   split at ht
   ·rename_i t' h1
    split at ht
    ·simp at ht;subst ht;exact .inl ⟨h0.2,h1⟩
    ·split at ht
     ·rename_i x hx;simp at ht;subst ht;exact .inr (.inl hx)
     ·split at ht
      ·simp at ht;subst ht;exact .inl ⟨h0.2,h1⟩
      ·simp at ht
   ·split at ht
    ·rename_i x hx;simp at ht;subst ht;exact .inr (.inl hx)
    ·split at ht
     ·rename_i x hx;simp at ht;subst ht;exact .inr (.inr (.inl hx))
     ·split at ht
      ·simp at ht
      ·simp at ht;exact .inr (.inr (.inr ht))
 rcases hb with hb|hb|hb|hb
 ·refine Run.region_wp fun a hr=>wp_region_any hm ?_
  have hdr:Ext w w.drew:=(Ext.refl w).drew
  have:=buildT_sound (K:=fun ρ w=>Run P fn n k' R ρ w) (fun o ho=>List.all_eq_true.1 hall o ho) hb.1 os.size (Array.replicate os.size false) t ρ a w.drew hb.2 hr (h _ (fun _ _ h=>h k' hk') w.drew hdr)
  exact this
 ·unfold tailOf at hb
  split at hb
  ·rename_i hB
   simp only [Option.some.injEq] at hb
   subst hb
   refine Run.region_wp fun a hr=>wp_quiet_tail (C:=Ext w) (headN P os) hm hB ((Ext.refl w).drew) ?_
   have hq:=h (fun ρ w=>Run P fn n k' R ρ w) (fun _ _ h=>h k' hk') w (Ext.refl w)
   have ha:∀ o∈os.toList,okOp n os o=true:=fun o ho=>List.all_eq_true.1 hall o ho
   have:=Q_wpQuiet (n:=n) (w:=w) (ops:=os) (os.toList.take (headN P os)) ρ a (fun o ho=>ha o (List.mem_of_mem_take ho)) hr hq
   refine wpQuiet_mono' ?_ _ _ this
   rintro a' ⟨ρ',h1,h2⟩ w' hw'
   exact O_wpList (n:=n) (ops:=os) (K:=fun ρ w=>Run P fn n k' R ρ w) (os.toList.drop (headN P os)) ρ' w' a' (fun o ho=>ha o (List.mem_of_mem_drop ho)) h1 (h2 w' hw')
  ·simp at hb
 ·refine Run.region_wp fun a hr=>wp_region_any hm ?_
  exact treeX_sound (K:=fun ρ w=>Run P fn n k' R ρ w) (fun o ho=>List.all_eq_true.1 hall o ho) hb hr (h _ (fun _ _ h=>h k' hk') w.drew ((Ext.refl w).drew))
 ·refine Run.region_wp fun a hr=>wp_region_any hm ?_
  have hi:=h (fun ρ w=>Run P fn n k' R ρ w) (fun _ _ h=>h k' hk') w.drew ((Ext.refl w).drew)
  rw [hb] at hi
  obtain ⟨J,j0,js,jf⟩:=hi
  refine inv_sound (fun o ho=>List.all_eq_true.1 hall o ho) js jf _ _ ρ a w.drew ze (Nat.le_trans List.countP_le_length ze) hr ?_
  have e:(fun j=>(Array.replicate os.size false).getD j false)=fun _=>false:=by
   funext j
   rw [Array.getD_eq_getD_getElem?,Array.getElem?_replicate]
   split<;>rfl
  rw [e]
  exact j0
end
theorem En {f:FuncId} {fn:Func} {args:List Value} {w:World} {R:Value→World→Prop} (n:Nat) (c:MC) (hf:Tryz.prog.funcs[f]?=some fn) (h:G Tryz.prog fn n [.c c] R (frL 0 args) w) (hb:fn.body=some (fn.body.getD .skip):=by kernel_rfl) (hn:fn.ntmps=n:=by kernel_rfl) (hle:args.length≤n:=by simp) (hm:conv Tryz.prog n (fn.body.getD .skip)=c:=by kernel_rfl):Ret Tryz.prog f args.toArray w R:=G.enter hf hb hn hle hm h
theorem cnB {P:Program} {fn:Func} {n:Nat} {ρ:Fr} {w:World} {r:List MI} {R:Value→World→Prop} {c:Operand} {a b:MC} {t:Bool} {c1 c2:Prop} (ht:True→c1→G P fn n (.c a :: r) R ρ w) (hf:True→c2→G P fn n (.c b :: r) R ρ w)
 (hc:ev ρ c=.bool t:=by (simp only [push_cast,↓reduceIte,Nat.reduceAdd,Nat.reduceLeDiff,Nat.reduceEqDiff,Nat.reduceLT,Int.reduceToNat,fct];rfl)) (h1:(t=true)=c1:=by first|(conv=>lhs;simp only [hcs,reduceCtorEq])|rfl) (h2:(t=false)=c2:=by first|(conv=>lhs;simp only [hcs,reduceCtorEq])|rfl):G P fn n (.c (.cond c a b) :: r) R ρ w:=
 G.cond hc (fun h=>ht trivial (h1.mp h)) (fun h=>hf trivial (h2.mp h))
theorem gO {P Q:Prop} (h:Q) (n:Wr Q→P:=by intro zh;first|exact G.reg zh.1|exact G.drt mixed zh.1|(with_reducible exact OT_tail zh.1)|(with_reducible exact OT_br zh.1)|exact G.drg mixed zh.1):P:=n ⟨h⟩
theorem kP {P Q:Prop} (h:Q) (n:Wr Q→P:=by intro zh;first|(with_reducible exact hK _ _ zh.1)|(with_reducible exact hK _ zh.1)):P:=n ⟨h⟩
theorem sA {P Q:Prop} (h:Q) (n:Wr Q→P:=by intro zh;(first|((with_reducible apply G.a);exact rfl)|(have zk:=hK;clear zk;simp (disch:=first|exact dis|fail) only [push_cast,↓reduceIte,Nat.reduceAdd,Nat.reduceLeDiff,Nat.reduceEqDiff,Nat.reduceLT,Int.reduceToNat,fct])|(with_reducible refine OT_leaf ?_));exact zh.1):P:=n ⟨h⟩
theorem bR {P Q R:Prop} (h:Q) (g:R) (n:Wr Q→Wr R→P:=by intro zh zg;first|exact brO_n zh.1 zg.1|exact brQ_n zh.1 zg.1|exact cnB zh.1 zg.1):P:=n ⟨h⟩ ⟨g⟩
theorem hcs:(∀ (p:Prop) [Decidable p],(decide p=true)=p)∧(∀ (p:Prop) [Decidable p],(decide p=false)=¬ p)∧(∀ b:Bool,((!b)=true)=(b=false))∧(∀ b:Bool,((!b)=false)=(b=true))∧(!true)=false∧(!false)=true
 ∧ (∀ a b:Bool,((a && b)=true)=(a=true∧b=true))∧(∀ a b:Bool,((a || b)=true)=(a=true∨b=true))∧(∀ a b:Bool,((a && b)=false)=(a=false∨b=false))∧(∀ a b:Bool,((a || b)=false)=(a=false∧b=false))
 ∧ (∀ {α:Type} [BEq α] [LawfulBEq α] (a b:α),((a == b)=true)=(a=b))∧(∀ {α:Type} [BEq α] [LawfulBEq α] (a b:α),((a != b)=true)=¬ (a=b))∧(∀ {α:Type} [BEq α] [LawfulBEq α] (a b:α),((a == b)=false)=¬ (a=b))∧(∀ {α:Type} [BEq α] [LawfulBEq α] (a b:α),((a != b)=false)=(a=b))
 ∧ (∀ {α:Type} (a b:α),(a≠b)=¬ (a=b))∧(∀ a b:Int,(¬ a < b)=(b≤a))∧(∀ a b:Int,(¬ a≤b)=(b < a))∧(true=false)=False∧(false=true)=False∧(¬ True)=False∧(¬ False)=True :=
 ⟨fun p _=>decide_eq_true_eq,fun p _=>propext decide_eq_false_iff_not,fun b=>by cases b<;>simp,fun b=>by cases b<;>simp,rfl,rfl,fun a b=>by cases a<;>simp,fun a b=>by cases a<;>simp,fun a b=>by cases a<;>simp,fun a b=>by cases a<;>simp,
  fun a b=>propext beq_iff_eq,fun a b=>propext bne_iff_ne,fun a b=>propext beq_eq_false_iff_ne,fun a b=>propext bne_eq_false_iff_eq,fun a b=>rfl,fun a b=>propext Int.not_lt,fun a b=>propext Int.not_le,by simp,by simp,by simp,by simp⟩
theorem lens:(∀ {α:Type} (a:α) (l:List α),(a :: l).length=l.length+1)∧(∀ {α:Type},([]:List α).length=0)∧(∀ {α:Type} (a b:List α),(a++b).length=a.length+b.length)∧(∀ {α β:Type} (f:α→β) (l:List α),(l.map f).length=l.length)
 ∧ (∀ {α:Type} (n:Nat) (l:List α),(l.take n).length=min n l.length)∧(∀ {α:Type} (n:Nat) (l:List α),(l.drop n).length=l.length - n)∧(∀ {α:Type} (n:Nat) (l:List α) (a:α),(l.set n a).length=l.length)∧(∀ {α:Type} (n:Nat) (a:α),(List.replicate n a).length=n) :=
 ⟨fun _ _=>rfl,rfl,fun _ _=>List.length_append,fun _ _=>List.length_map _,fun _ _=>List.length_take,fun _ _=>List.length_drop,fun _ _ _=>List.length_set,fun _ _=>List.length_replicate⟩
theorem apps:(∀ (a:Chk) (l m:List Chk),(a :: l)++m=a :: (l++m))∧(∀ l:List Chk,[]++l=l):=⟨fun _ _ _=>rfl,fun _=>rfl⟩
theorem sets:(∀ (cs:List Value) (o:Nat),setL cs o []=cs)∧(∀ (cs:List Value) (o:Nat) (x:Value) (l:List Value),setL cs o (x :: l)=setL (cs.set o x) (o+1) l)∧(∀ (a b:Value) (l:List Value),(a :: l).set 0 b=b :: l)∧(∀ (a b:Value) (l:List Value) (n:Nat),(a :: l).set (n+1) b=a :: l.set n b):=⟨setL_n,setL_c,fun _ _ _=>rfl,fun _ _ _ _=>rfl⟩
theorem dis {p:Prop} (h:p:=by first|assumption|exact Sep.blk ‹_› zr|exact Sep.rd ‹_› zr|exact Blk.old ‹_› ‹_›|exact Rd.old ‹_› ‹_›|exact EncSz.h|exact OneI.h|omega|(simp only [lens];omega)|exact Rd.one ‹_›|exact Sep.accOne ‹_› zr|fail):p:=h
theorem dj {p:Prop} (h:p:=by first|assumption|omega|(simp only [lens];omega)|exact Sep.sub ‹_› zr):p:=h
theorem dl {p:Prop} (h:p:=by first|omega|(simp only [lens];omega)):p:=h
theorem done1 {v:Value} (h:One v:=by first|with_reducible assumption|exact OneI.h|exact Sep.accOne ‹_› zr|exact Rd.one ‹_›):One v:=h
theorem agg_cells {cs:List Value}:(Value.agg cs.toArray).cells=cs.toArray:=rfl
theorem dones {cs:List Value} (h:∀ u∈cs,One u:=by (intro u hu;simp only [push_cast,List.mem_cons,List.not_mem_nil,or_false] at hu;(repeat first|(obtain hu|hu:=hu;(subst hu;exact done1))|(subst hu;exact done1)))):∀ u∈cs,One u:=h
theorem dsl {t e:TypeId} {sz bt:Nat} {zs:List Value} (h:SlT Tryz.prog t e sz bt zs:=by first|exact sl22|exact sl40|exact sl53|exact sl65|exact sl112|exact sl115|exact sl124|exact sl154|exact sl168|exact sl225|exact sl247|fail):SlT Tryz.prog t e sz bt zs:=h
theorem dmp {t kt et:TypeId} {z:Value} (h:MapT Tryz.prog t kt et z:=by first|exact mp52|exact mp149|exact mp169|exact mp260|fail):MapT Tryz.prog t kt et z:=h
theorem dpt {t e:TypeId} (h:PtT Tryz.prog t e:=by first|exact pt15|exact pt16|exact pt17|exact pt25|exact pt64|exact pt90|exact pt101|exact pt135|exact pt194|exact pt240|exact pt257|exact pt273|fail):PtT Tryz.prog t e:=h
theorem fct:True:=trivial
theorem Sep.xx {w0 w w':World} {L:List Chk} (hx:Ext w w') (h:Sep w0 w L:=by assumption):Sep w0 w' L:=h.ext hx
theorem brO_n {P:Program} {l1 l2:List ML} {ρ1 ρ2:Fr} {w:World} {c:Bool} {K:Fr→World→Prop} {b1 b2 c1 c2:Prop} (ha:b1→c1→O P K l1 ρ1 w) (hb:b2→c2→O P K l2 ρ2 w)
 (h1:(c=true)=b1:=by first|(conv=>lhs;simp only [Bool.not_eq_true',Bool.not_eq_false'])|rfl) (h2:(c=false)=b2:=by first|(conv=>lhs;simp only [Bool.not_eq_true',Bool.not_eq_false'])|rfl)
 (h3:b1=c1:=by first|(conv=>lhs;simp only [hcs,reduceCtorEq])|rfl) (h4:b2=c2:=by first|(conv=>lhs;simp only [hcs,reduceCtorEq])|rfl):brO P K c l1 ρ1 l2 ρ2 w :=
 brO_mk (fun h=>ha (h1.mp h) (h3.mp (h1.mp h))) (fun h=>hb (h2.mp h) (h4.mp (h2.mp h)))
theorem brQ_n {P:Program} {l1 l2:List ML} {ρ1 ρ2:Fr} {w:World} {c:Bool} {K:Fr→Prop} {b1 b2 c1 c2:Prop} (ha:b1→c1→Q P K w l1 ρ1) (hb:b2→c2→Q P K w l2 ρ2)
 (h1:(c=true)=b1:=by first|(conv=>lhs;simp only [Bool.not_eq_true',Bool.not_eq_false'])|rfl) (h2:(c=false)=b2:=by first|(conv=>lhs;simp only [Bool.not_eq_true',Bool.not_eq_false'])|rfl)
 (h3:b1=c1:=by first|(conv=>lhs;simp only [hcs,reduceCtorEq])|rfl) (h4:b2=c2:=by first|(conv=>lhs;simp only [hcs,reduceCtorEq])|rfl):brQ P K w c l1 ρ1 l2 ρ2 :=
 brQ_mk (fun h=>ha (h1.mp h) (h3.mp (h1.mp h))) (fun h=>hb (h2.mp h) (h4.mp (h2.mp h)))
theorem G.cn {P:Program} {fn:Func} {n:Nat} {ρ:Fr} {w:World} {r:List MI} {R:Value→World→Prop} {c:Operand} {a b:MC} {t:Bool} {c1 c2:Prop} (ht:c1→G P fn n (.c a :: r) R ρ w) (hf:c2→G P fn n (.c b :: r) R ρ w)
 (hc:ev ρ c=.bool t:=by (simp only [push_cast,↓reduceIte,zq1,zq2,zq3,zq4,zq5,fct];rfl)) (h1:(t=true)=c1:=by first|(conv=>lhs;simp only [hcs,reduceCtorEq])|rfl) (h2:(t=false)=c2:=by first|(conv=>lhs;simp only [hcs,reduceCtorEq])|rfl):G P fn n (.c (.cond c a b) :: r) R ρ w :=
 G.cond hc (fun h=>ht (h1.mp h)) (fun h=>hf (h2.mp h))
theorem gBox {P:Program} {t:TypeId} {v:Value} {w:World} {d:Option Nat} {ρ:Fr} {next:Fr→World→Prop} (h:SemK P (Instr.box t v) w d ρ next):SemK P (Instr.box t v) w d ρ next:=h
theorem gSt {P:Program} {n:Nat} {q:Option Addr} {v:Value} {w:World} {d:Option Nat} {ρ:Fr} {next:Fr→World→Prop} (h:StK P n (.pointer q) v w d ρ next):StK P n (.pointer q) v w d ρ next:=h
theorem Sep.ap {w0 w w':World} {L L':List Chk} (h':Sep w w' L') (h:Sep w0 w L:=by assumption):Sep w0 w' (L'++L):=h.app h'
section
variable {ρ:Fr} {w w0:World} {d:Option Nat} {next:Fr→World→Prop} {L L' M:List Chk} {g n:Nat} {t e ty:TypeId} {cs:List Value} {v:Value} {bt:Nat} {zs:List Value}
theorem zalc (k:∀ g w',Sep w0 w' (boxC g t cs :: L)→next (updO ρ d (.pointer (some ⟨g,0,none⟩))) w') (hS:Sep w0 w L:=by assumption):AlcK Tryz.prog t cs w d ρ next:=alcK hS k
theorem zbsl (k:∀ g w',Sep w0 w' (boxC g t cs :: L)→next (updO ρ d (.slice (some ⟨g,0,none⟩) n n)) w') (hS:Sep w0 w L:=by assumption):BslK Tryz.prog t cs n w d ρ next:=bslK hS k
theorem zbox {l:List Value} (k:∀ g w',Sep w0 w' (boxC g t l :: L)→next (updO ρ d (.pointer (some ⟨g,0,none⟩))) w') (hS:Sep w0 w L:=by assumption) (hl:v.cells=l.toArray:=by first|with_reducible exact agg_cells|exact one_cells done1|rfl):SemK Tryz.prog (Instr.box t v) w d ρ next:=boxK hS hl k
theorem zst {o:Nat} {l:List Value} (k:∀ w',Sep w0 w' L'→next (updO ρ d undef) w') (hS:Sep w0 w L:=by assumption) (hl:v.cells=l.toArray:=by first|with_reducible exact agg_cells|exact one_cells done1|rfl) (hu:Up (boxC g t cs) (boxC g t (setL cs o l)) L L':=by repeat constructor) (hn:l.length=n:=by rfl) (ho:o+n≤cs.length:=by exact dl) (h1:∀ u∈l,One u:=by exact dones) :
 StK Tryz.prog n (.pointer (some ⟨g,o,none⟩)) v w d ρ next:=stK hS hl hu hn ho h1 k
theorem zs2 {o:Nat} {l:List Value} {M:List Value} (k:∀ w',Sep w0 w' L'→next (updO ρ d undef) w') (hS:Sep w0 w L:=by assumption) (hl:v.cells=l.toArray:=by first|with_reducible exact agg_cells|exact one_cells done1|rfl) (hM:setL cs o l=M:=by (conv=>lhs;simp only [sets])) (hu:Up (boxC g t cs) (boxC g t M) L L':=by repeat constructor) (hn:l.length=n:=by rfl) (ho:o+n≤cs.length:=by exact dl) (h1:∀ u∈l,One u:=by exact dones) :
 StK Tryz.prog n (.pointer (some ⟨g,o,none⟩)) v w d ρ next:=by subst hM;exact stK hS hl hu hn ho h1 k
theorem zse {α:Type} {E:Enc α} {xs:List α} {i:Int} {k':IntKind} {x:Value} {y:α} (k:∀ w',Sep w0 w' L'→next (updO ρ d undef) w') (hS:Sep w0 w L:=by assumption) (hu:Up (accC v e E xs) (accC v e E (xs.set i.toNat y)) L L':=by repeat constructor) (hi:0≤i∧i < (xs.length:Int):=by exact dl) (hn:E.sz=n:=by rfl) (hx:x.cells=(E.f y).toArray:=by rfl) (h1:∀ u∈E.f y,One u:=by exact dones) :
 StK Tryz.prog n (adrV n v (.int k' i)) x w d ρ next:=stE y hS hu hi hn hx h1 k
theorem zap {α:Type} {E:Enc α} {xs:List α} {cells:List Value} {R:Value→List Chk} {y:α} (k:∀ v' w',Sep w0 w' (R v')→next (updO ρ d v') w') (hS:Sep w0 w L:=by assumption) (hb:Ex (boxC g e cells) L M:=by repeat constructor) (hu:∀ v',Up (accC v e E xs) (accC v' e E (xs++[y])) M (R v'):=by intro v';repeat constructor) (hy:cells=E.f y:=by rfl) (hT:SlT Tryz.prog t e E.sz bt zs:=by exact dsl) (hp:0 < E.sz:=by decide)
 (h63:((xs.length+1)+(xs.length+1) / 4+192) * bt≤281474976710656:=by exact dl) (h64:xs.length+1≤1000000000000000:=by exact dl) (h1:∀ u∈cells,One u:=by exact dones):SemK Tryz.prog (Builtin.append_ #[t,t] ty #[v,.slice (some ⟨g,0,none⟩) 1 1]) w d ρ next:=app1 y hS hb hu hy hT hp h63 h64 h1 k
theorem zan {α:Type} {E:Enc α} {xs ys:List α} {x:Value} {R:Value→List Chk} (k:∀ v' w',Sep w0 w' (R v')→next (updO ρ d v') w') (hS:Sep w0 w L:=by assumption) (hr:Rd w E x ys:=by exact dis) (hu:∀ v',Up (accC v e E xs) (accC v' e E (xs++ys)) L (R v'):=by intro v';repeat constructor) (hT:SlT Tryz.prog t e E.sz bt zs:=by exact dsl) (hp:0 < E.sz:=by decide)
 (h63:((xs.length+ys.length)+(xs.length+ys.length) / 4+192) * bt≤281474976710656:=by exact dl) (h64:xs.length+ys.length≤1000000000000000:=by exact dl):SemK Tryz.prog (Builtin.append_ #[t,t] ty #[v,x]) w d ρ next:=appN hS hr hu hT hp h63 h64 k
theorem zmk {α:Type} (E:Enc α) (z0:α) {n c:Int} (k:∀ v w',Sep w0 w' (accC v e E (List.replicate n.toNat z0) :: L)→next (updO ρ d v) w') (hS:Sep w0 w L:=by assumption) (hT:SlT Tryz.prog t e E.sz bt zs:=by exact dsl) (hzs:zs=E.f z0:=by rfl) (hp:0 < E.sz:=by decide) (hn:0≤n∧n≤c∧c≤1000000000000000:=by omega) (hb:(bt:Int) * c≤281474976710656:=by omega) (h1:∀ u∈E.f z0,One u:=by exact dones) :
 SemK Tryz.prog (Instr.makeSlice t (.int .i64 n) (.int .i64 c)) w d ρ next:=mkS hS hT hzs hp hn hb h1 k
theorem zn1 {x y:Operand} {sz:Nat} (h:next (updO ρ d (.bool (isNil v))) w) (hu:SlT Tryz.prog t e sz bt zs:=by exact dsl) (hv:isL v=True:=by simp (disch:=(first|exact dis|fail)) only [push_cast,↓reduceIte,zq1,zq2,zq3,zq4,zq5]):SemK Tryz.prog (do eqGuard .eql t x y v (.slice none 0 0);binOp .eql t v (.slice none 0 0)) w d ρ next:=nilS_e hu hv h
theorem zn2 {x y:Operand} {sz:Nat} (h:next (updO ρ d (.bool (!(isNil v)))) w) (hu:SlT Tryz.prog t e sz bt zs:=by exact dsl) (hv:isL v=True:=by simp (disch:=(first|exact dis|fail)) only [push_cast,↓reduceIte,zq1,zq2,zq3,zq4,zq5]):SemK Tryz.prog (do eqGuard .neq t x y v (.slice none 0 0);binOp .neq t v (.slice none 0 0)) w d ρ next:=nilS_n hu hv h
theorem zn3 {x y:Operand} {p:Option Addr} (h:next (updO ρ d (.bool (isNil (.pointer p)))) w) (hu:PtT Tryz.prog t e:=by exact dpt):SemK Tryz.prog (do eqGuard .eql t x y (.pointer p) (.pointer none);binOp .eql t (.pointer p) (.pointer none)) w d ρ next:=nilP_e hu h
theorem zn4 {x y:Operand} {p:Option Addr} (h:next (updO ρ d (.bool (!(isNil (.pointer p))))) w) (hu:PtT Tryz.prog t e:=by exact dpt):SemK Tryz.prog (do eqGuard .neq t x y (.pointer p) (.pointer none);binOp .neq t (.pointer p) (.pointer none)) w d ρ next:=nilP_n hu h
theorem zcp (f:Nat) {args:List Value} {X:Value} (h:Pu Tryz.prog f args.toArray w X) (k:∀ w',Sep w0 w' L→next (updO ρ d X) w') (hS:Sep w0 w L:=by assumption):CallK Tryz.prog f args w d ρ next:=callK_pu hS h k
theorem zco (f:Nat) {args:List Value} {V:Value→World→Prop} (h:Ret Tryz.prog f args.toArray w V) (k:∀ v w',V v w'→next (updO ρ d v) w'):CallK Tryz.prog f args w d ρ next:=callK_of h k
theorem zag2 {P:Program} {s t g bt:Nat} {xs:List Value} {R:List Chk} (hs:ρ s=.pointer (some ⟨g,0,none⟩):=by (simp only [push_cast,↓reduceIte,zq1,zq2,zq3,zq4,zq5,fct];rfl)) (hS:Sep w0 w L:=by assumption) (he:Ex (boxC g bt xs) L R:=by repeat constructor) (ht:aggN P t=some (some xs.length):=by kernel_rfl):RV P ρ w (.cell s t) (.agg xs.toArray):=RV.agg hs (hS.blk he) ht
end
section
variable {P:Program} {fn:Func} {n:Nat} {ρ:Fr} {w:World} {r:List MI} {R:Value→World→Prop} {y1 y2 y3:ResultVar} {v1 v2 v3:Value}
theorem sf {p:Prop} (h:p:=by first|(simp only [push_cast,↓reduceIte,zq1,zq2,zq3,zq4,zq5,fct]<;>rfl)|rfl):p:=h
theorem G.r1 (h:R v1 w) (hf:fn.results=#[y1]:=by rfl) (h1:RV P ρ w y1 v1:=by first|exact RV.tmp|exact zag2):G P fn n (.c .ret :: r) R ρ w:=G.rv1 hf h1 h
theorem G.r2 (h:R (.tuple #[v1,v2]) w) (hf:fn.results=#[y1,y2]:=by rfl) (h1:RV P ρ w y1 v1:=by first|exact RV.tmp|exact zag2) (h2:RV P ρ w y2 v2:=by first|exact RV.tmp|exact zag2):G P fn n (.c .ret :: r) R ρ w:=G.rv2 hf h1 h2 h
theorem G.r3 (h:R (.tuple #[v1,v2,v3]) w) (hf:fn.results=#[y1,y2,y3]:=by rfl) (h1:RV P ρ w y1 v1:=by first|exact RV.tmp|exact zag2) (h2:RV P ρ w y2 v2:=by first|exact RV.tmp|exact zag2) (h3:RV P ρ w y3 v3:=by first|exact RV.tmp|exact zag2):G P fn n (.c .ret :: r) R ρ w:=G.rv3 hf h1 h2 h3 h
theorem G.r0 (h:R (.tuple #[]) w) (hf:fn.results=#[]:=by rfl):G P fn n (.c .ret :: r) R ρ w:=G.ret0 hf h
end
section
variable {β:Type} {ρ:Fr} {w w0:World} {d:Option Nat} {next:Fr→World→Prop} {L L' R:List Chk} {r:Nat} {t kt et ty:TypeId} {z:Value} {m:Str→Option β}
theorem zmm {x:Option Value} (enc:β→Value) (k:∀ g w',Sep w0 w' (mapC g enc (fun _=>none) :: L)→next (updO ρ d (.map (some g))) w') (hS:Sep w0 w L:=by assumption) (hT:MapT Tryz.prog t kt et z:=by exact dmp) (hx:x=none∨∃ n:Int,x=some (I n):=by first|exact Or.inl rfl|exact Or.inr ⟨_,rfl⟩):SemK Tryz.prog (Instr.makeMap t x) w d ρ next:=mkmK enc hS hT hx k
theorem zlk {c:Bool} {enc:β→Value} {s:Str} (k:next (updO ρ d (if c then .tuple #[mget enc z (m s),.bool (m s).isSome] else mget enc z (m s))) w) (hM:MapRd w r enc m:=by first|assumption|exact Sep.mrd ‹_› zr|exact MapRd.old ‹_› ‹_›) (hT:MapT Tryz.prog t kt et z:=by exact dmp):SemK Tryz.prog (Instr.lookup t (.map (some r)) (S s) c) w d ρ next:=lkpK hM hT k
theorem zmu {enc:β→Value} {s:Str} {b:β} {v:Value} (k:∀ w',Sep w0 w' L'→next (updO ρ d undef) w') (hS:Sep w0 w L:=by assumption) (hu:Up (mapC r enc m) (mapC r enc (mput m s b)) L L':=by repeat constructor) (hv:v=enc b:=by rfl) (hT:MapT Tryz.prog t kt et z:=by exact dmp):UnitK Tryz.prog (Instr.mapUpdate t (.map (some r)) (S s) v) w d ρ next:=mupK hS hu hv hT k
end
def bldC (g:Nat) (t tu:TypeId) (xs:Str):Chk where
 ok w F:=∃ p bv F',Blk w g t [p,bv].toArray∧F g∧¬ F' g∧(∀ b,F' b→F b)∧(accC bv tu eU xs).ok w F'∧(p=.pointer none∨p=.pointer (some ⟨g,0,none⟩))
 loc:=by
  rintro w w' F hb ⟨p,bv,F',h1,h2,h3,h4,h5,h6⟩
  exact ⟨p,bv,F',(hb g h2).2.trans h1,h2,h3,h4,(accC bv tu eU xs).loc (fun b hF=>hb b (h4 b hF)) h5,h6⟩
section
variable {w w0:World} {L R:List Chk} {g:Nat} {t tu:TypeId} {xs:Str}
theorem Sep.openB (h:Sep w0 w L) (he:Ex (bldC g t tu xs) L R):∃ p bv,(p=.pointer none∨p=.pointer (some ⟨g,0,none⟩))∧Sep w0 w (boxC g t [p,bv] :: accC bv tu eU xs :: R):=by
 obtain ⟨F,⟨p,bv,F',f1,f2,f3,f4,f5,f6⟩,h2,h3⟩:=SepL.take he h.2
 refine ⟨p,bv,f6,h.1,fun b=>b=g,⟨rfl,f1⟩,fun b hb=>?_,F',f5,fun b hb=>⟨(h2 b (f4 b hb)).1,(h2 b (f4 b hb)).2.1,?_⟩,SepL.mono h3 ?_⟩
 ·subst hb;exact h2 b f2
 ·rintro (q|q)
  ·exact q
  ·subst q;exact f3 hb
 ·rintro b ((q|q)|q)
  ·exact .inl q
  ·subst q;exact .inr f2
  ·exact .inr (f4 b q)
theorem Sep.shutB {p bv:Value} (h:Sep w0 w (boxC g t [p,bv] :: accC bv tu eU xs :: R)) (hp:p=.pointer none∨p=.pointer (some ⟨g,0,none⟩)):Sep w0 w (bldC g t tu xs :: R):=by
 obtain ⟨F1,⟨f1,b1⟩,h2,F2,a1,a2,h3⟩:=h.2
 refine ⟨h.1,fun b=>F1 b∨F2 b,⟨p,bv,F2,b1,.inl f1,fun hg=>(a2 g hg).2.2 (.inr f1),fun b hb=>.inr hb,a1,hp⟩,?_,SepL.mono h3 ?_⟩
 ·rintro b (q|q)
  ·exact h2 b q
  ·exact ⟨(a2 b q).1,(a2 b q).2.1,fun hf=>(a2 b q).2.2 (.inl hf)⟩
 ·rintro b (q|q|q)
  ·exact .inl (.inl q)
  ·exact .inl (.inr q)
  ·exact .inr q
theorem Sep.newB (tu:TypeId) (h:Sep w0 w (boxC g t [.pointer none,.slice none 0 0] :: R)):Sep w0 w (bldC g t tu [] :: R):=by
 obtain ⟨F1,⟨f1,b1⟩,h2,h3⟩:=h.2
 exact ⟨h.1,F1,⟨_,_,fun _=>False,b1,f1,id,fun _ hb=>hb.elim,nil_own w tu eU,.inl rfl⟩,h2,h3⟩
end
section
variable {w:World} {g:Nat} {t:TypeId} {a b:Int} {cap:Nat} {v:Value} {xs:Str}
theorem b2s_rd (h:Rd w eU v xs):okB2s w v∧b2sV w v=S xs:=by
 obtain ⟨p,cap,rfl,h1,h2,h3,h4⟩:=h
 cases p with
 | none =>
   have:xs=[]:=List.eq_nil_of_length_eq_zero (by
    apply Nat.eq_zero_of_not_pos
    intro hp
    obtain ⟨a,ha,_⟩:=h4 hp
    simp at ha)
   subst this
   exact ⟨trivial,rfl⟩
 | some p =>
   have hc:∀ j (hj:j < xs.length),w.cell? (p.add j)=some (.int .u8 (xs[j].toNat:Int)):=by
    intro j hj
    obtain ⟨a,ha,h5⟩:=h4 zo
    simp only [Option.some.injEq] at ha
    subst ha
    refine h5 j _ ?_
    rw [←byte_flat,List.getElem?_map,List.getElem?_eq_getElem hj];rfl
   refine ⟨fun j hj=>⟨_,hc j hj⟩,?_⟩
   simp only [b2sV]
   congr 1
   apply List.ext_getElem
   ·simp
   ·intro j h1 h2
    simp only [List.getElem_map,List.getElem_range]
    rw [hc j h2]
    simp [byteOfV]
theorem okB2s_rd (h:Rd w eU v xs):okB2s w v=True:=eq_true (b2s_rd h).1
theorem b2sV_rd (h:Rd w eU v xs):b2sV w v=S xs:=(b2s_rd h).2
theorem blk_add (h:Blk w g t [.int .u8 a,.int .u8 b].toArray):w.cell? ((⟨g,0,none⟩:Addr).add 0)=some (.int .u8 a)∧w.cell? ((⟨g,0,none⟩:Addr).add 1)=some (.int .u8 b):=by
 unfold Blk at h
 constructor<;>simp [World.cell?,Addr.add,h]
theorem okB2s_b2 (h:Blk w g t [.int .u8 a,.int .u8 b].toArray):okB2s w (.slice (some ⟨g,0,none⟩) 2 cap)=True:=by
 apply eq_true
 intro j hj
 obtain ⟨h0,h1⟩:=blk_add h
 have:j=0∨j=1:=by omega
 rcases this with rfl|rfl
 ·exact ⟨_,h0⟩
 ·exact ⟨_,h1⟩
theorem b2sV_b2 (h:Blk w g t [.int .u8 a,.int .u8 b].toArray):b2sV w (.slice (some ⟨g,0,none⟩) 2 cap)=S [UInt8.ofNat a.toNat,UInt8.ofNat b.toNat]:=by
 obtain ⟨h0,h1⟩:=blk_add h
 simp only [b2sV,show List.range 2=[0,1] from rfl,List.map_cons,List.map_nil,h0,h1]
 rfl
theorem okB2s_b1 (h:Blk w g t [.int .u8 a].toArray):okB2s w (.slice (some ⟨g,0,none⟩) 1 cap)=True:=by
 apply eq_true
 intro j hj
 have:j=0:=by omega
 subst this
 unfold Blk at h
 exact ⟨a,by simp [World.cell?,Addr.add,h]⟩
theorem b2sV_b1 (h:Blk w g t [.int .u8 a].toArray):b2sV w (.slice (some ⟨g,0,none⟩) 1 cap)=S [UInt8.ofNat a.toNat]:=by
 unfold Blk at h
 simp only [b2sV,show List.range 1=[0] from rfl,List.map_cons,List.map_nil]
 simp [World.cell?,Addr.add,h,byteOfV]
theorem ofn_nat (c:UInt8):UInt8.ofNat c.toNat=c:=UInt8.ofNat_toNat
end
attribute [push_cast] okB2s_rd b2sV_rd okB2s_b2 b2sV_b2 okB2s_b1 b2sV_b1 ofn_nat
def RdF {α:Type} (F:Nat→Prop) (w:World) (E:Enc α) (v:Value) (xs:List α):Prop:=Rd w E v xs∧∀ a n c,v=.slice (some a) n c→0 < xs.length→F a.block
section
variable {α:Type} {w w' w0:World} {E:Enc α} {F F':Nat→Prop} {v:Value} {xs:List α} {vs:List Value} {xss:List (List α)} {L M R:List Chk} {t:TypeId}
theorem RdF.loc (h:RdF F w E v xs) (hb:∀ b,F b→b < w.heap.size∧w'.heap[b]?=w.heap[b]?):RdF F w' E v xs:=by
 obtain ⟨⟨p,cap,h1,h2,h3,h4,h5⟩,hF⟩:=h
 refine ⟨⟨p,cap,h1,h2,h3,h4,fun hn=>?_⟩,hF⟩
 obtain ⟨a,ha,hc⟩:=h5 hn
 refine ⟨a,ha,fun j u hj=>?_⟩
 have hf:=hF a _ _ (by rw [h1,ha]) hn
 have h6:=hc j u hj
 have hblk:(a.add j).block=a.block:=by unfold Addr.add;split<;>rfl
 unfold World.cell? at h6 ⊢
 rw [hblk] at h6 ⊢
 rw [(hb _ hf).2]
 exact h6
theorem RdF.mono (h:RdF F w E v xs) (hF:∀ b,F b→F' b):RdF F' w E v xs:=⟨h.1,fun a n c hv hn=>hF _ (h.2 a n c hv hn)⟩
def frzC (E:Enc α) (vs:List Value) (xss:List (List α)):Chk where
 ok w F:=vs.length=xss.length∧∀ i,i < xss.length→RdF F w E (vs.getD i default) (xss.getD i [])
 loc:=fun hb ⟨h1,h2⟩=>⟨h1,fun i hi=>(h2 i hi).loc hb⟩
theorem Sep.frz0 (hS:Sep w0 w L) (E:Enc α):Sep w0 w (frzC E [] [] :: L):=hS.push (Ext.refl w) (F:=fun _=>False) ⟨rfl,fun i hi=>by simp at hi⟩ (fun _ h=>h.elim)
theorem acc_rdF (h:(accC v t E xs).ok w F):RdF F w E v xs:=by
 obtain ⟨h1,h2,h3,h4⟩:=h
 refine ⟨own_rd h1 h3 h4,fun a n c hv hn=>?_⟩
 rcases h1.2 with ⟨hv',hn'⟩|⟨g,cap,cur,hv',_⟩
 ·rw [hv'] at hv;simp at hv
 ·rw [hv'] at hv
  simp only [Value.slice.injEq,Option.some.injEq] at hv
  rw [←hv.1]
  exact h2 g (by rw [hv'];rfl)
theorem getD_snoc_lt {β:Type} (l:List β) (x d:β) (i:Nat) (h:i < l.length):(l++[x]).getD i d=l.getD i d:=by
 simp [List.getD_eq_getElem?_getD,List.getElem?_append_left h]
theorem getD_snoc_eq {β:Type} (l:List β) (x d:β):(l++[x]).getD l.length d=x:=by
 simp [List.getD_eq_getElem?_getD]
theorem Sep.frzPush (hS:Sep w0 w L) (h1:Ex (accC v t E xs) L M) (h2:Ex (frzC E vs xss) M R):Sep w0 w (frzC E (vs++[v]) (xss++[xs]) :: R):=by
 obtain ⟨F,f1,f2,f3⟩:=SepL.take h1 hS.2
 obtain ⟨G,g1,g2,g3⟩:=SepL.take h2 f3
 refine ⟨hS.1,fun b=>F b∨G b,?_,fun b hb=>?_,SepL.mono g3 ?_⟩
 ·obtain ⟨hl,hr⟩:=g1
  refine ⟨by simp [hl],fun i hi=>?_⟩
  simp only [List.length_append,List.length_cons,List.length_nil] at hi
  by_cases hlt:i < xss.length
  ·rw [getD_snoc_lt _ _ _ _ zo,getD_snoc_lt _ _ _ _ hlt]
   exact (hr i hlt).mono fun b h=>.inr h
  ·have:i=xss.length:=by omega
   subst this
   rw [getD_snoc_eq,←hl,getD_snoc_eq]
   exact (acc_rdF f1).mono fun b h=>.inl h
 ·rcases hb with hb|hb
  ·exact ⟨(f2 b hb).1,(f2 b hb).2.1,id⟩
  ·exact ⟨(g2 b hb).1,(g2 b hb).2.1,id⟩
 ·rintro b (h|h|h)
  ·exact h.elim
  ·exact .inl (.inr h)
  ·exact .inr h
theorem Sep.frzAt (hS:Sep w0 w L) (h:Ex (frzC E vs xss) L R) {i:Nat} (hi:i < xss.length):Rd w E (vs.getD i default) (xss.getD i []):=by
 obtain ⟨F,h1,_⟩:=hS.get h
 exact (h1.2 i hi).1
theorem Sep.frzLen (hS:Sep w0 w L) (h:Ex (frzC E vs xss) L R):vs.length=xss.length:=by
 obtain ⟨F,h1,_⟩:=hS.get h
 exact h1.1
theorem Sub.rfl':∀ {M:List Chk},Sub M M
 | []=>.n
 | _ :: _=>.c .h Sub.rfl'
theorem Sub.skip {d:Chk}:∀ {M L:List Chk},Sub M L→Sub M (d :: L):=by
 intro M L h
 induction h with
 | n=>exact .n
 | c he _ ih=>exact .c (.t he) ih
theorem Sep.cut0 {k:IntKind} {L':List Chk} {sz:Nat} (hS:Sep w0 w L) (hu:Up (accC v t E xs) (accC (slVV sz none (some (.int k 0)) v) t E []) L L'):Sep w0 w L':=by
 refine hS.change hu (Nat.le_refl _) rfl rfl rfl fun F hc hF=>⟨F,?_,fun b hb=>⟨hF b hb,.inl hb⟩,fun _ _ _=>rfl⟩
 obtain ⟨⟨h1,h2⟩,h3,h4,h5⟩:=hc
 rcases h2 with ⟨rfl,hn⟩|⟨g,cap,cur,rfl,hb,hg,hnc,hcm,hcs,htk⟩
 ·exact ⟨⟨by simp,.inl ⟨rfl,rfl⟩⟩,fun g h=>by simp [slVV,Value.ownBlock,loN,hiN] at h,by simp,by simp⟩
 ·have e:slVV sz none (some (.int k 0)) (.slice (some ⟨g,0,none⟩) xs.length cap)=.slice (some ⟨g,0,none⟩) 0 cap:=by
   simp [slVV,loN,hiN,Addr.add]
  rw [e]
  exact ⟨⟨by simp,.inr ⟨g,cap,cur,rfl,hb,hg,Nat.zero_le _,hcm,hcs,by simp⟩⟩,fun g' h=>h3 g' (by simpa [Value.ownBlock] using h),by simp,by simp⟩
def RdT (w:World) (E:Enc α) (v:Value) (xss:List (List α)):Prop:=∃ vs,Rd w eV v vs∧vs.length=xss.length∧∀ i,i < xss.length→Rd w E (vs.getD i default) (xss.getD i [])
theorem RdT.ext (h:RdT w E v xss) (hx:Ext w w'):RdT w' E v xss:=by
 obtain ⟨vs,h1,h2,h3⟩:=h
 exact ⟨vs,h1.ext hx,h2,fun i hi=>(h3 i hi).ext hx⟩
theorem Sep.rdT (hS:Sep w0 w L) {u:TypeId} (h1:Ex (accC v u eV vs) L M) (h2:Ex (frzC E vs xss) L R):RdT w E v xss:=⟨vs,hS.rd h1,hS.frzLen h2,fun _ hi=>hS.frzAt h2 hi⟩
end
section
variable {P:Program} {K:Fr→World→Prop} {rest:List ML} {ρ:Fr} {w w0:World} {d:Option Nat} {next:Fr→World→Prop} {L L' R:List Chk} {t ty e:TypeId} {v:Value} {g:Nat} {cs:List Value}
theorem O_usd (x:Operand) (ts:Array TypeId):O P K (⟨none,d,.raw (.call ⟨.builtin .unsafeSliceData,#[x],ts⟩) ty⟩ :: rest) ρ w=SemK P (Builtin.unsafeSliceData_ ts ty #[ev ρ x]) w d ρ (O P K rest):=by
 rw [O_raw];exact rawV (by simp [execOp,resolve,invoke,builtin])
theorem O_ust (x y:Operand) (ts:Array TypeId):O P K (⟨none,d,.raw (.call ⟨.builtin .unsafeString,#[x,y],ts⟩) ty⟩ :: rest) ρ w=SemK P (Builtin.unsafeString_ ts ty #[ev ρ x,ev ρ y]) w d ρ (O P K rest):=by
 rw [O_raw];exact rawV (by simp [execOp,resolve,invoke,builtin])
theorem eqSelf_n {x y:Operand} {a:Addr} {e:TypeId} (hu:PtT P t e) (hj:∃ j,P.info? e=some j) (h:next (updO ρ d (.bool false)) w):SemK P (do eqGuard .neq t x y (.pointer (some a)) (.pointer (some a));binOp .neq t (.pointer (some a)) (.pointer (some a))) w d ρ next:=by
 obtain ⟨j,hj⟩:=hj
 have e0:∀ dd,(Op.equalIn (dd+1) t (.pointer (some a)) (.pointer (some a))).run P w=.ok true w:=fun dd=>by
  simp only [Op.equalIn,Sem.run_bind,run_underlying hu.u,Result.andThen_ok]
  by_cases h0:j.size=0
  ·simp [sizeOf,typeInfo,hj,h0]
  ·simp [sizeOf,typeInfo,hj,h0,run_sameAddr_same]
 have h1:(Op.equal t (.pointer (some a)) (.pointer (some a))).run P w=.ok true w:=by simpa [Op.equal,Op.maxDepth] using e0 9999
 exact ⟨_,w,by simp [eqGuard,binOp,h1],h⟩
theorem blk_shape (h:Blk w g t cs.toArray):w.shape? g=some (t,cs.length):=by
 unfold Blk at h
 simp [World.shape?,h]
theorem zas {xs:List UInt8} {s:Str} {tx:TypeId} {bt:Nat} {zs:List Value} {R:Value→List Chk} (k:∀ v' w',Sep w0 w' (R v')→next (updO ρ d v') w') (hx:Tryz.prog.underlying tx=some .string) (hS:Sep w0 w L:=by assumption) (hu:∀ v',Up (accC v e eU xs) (accC v' e eU (xs++s)) L (R v'):=by intro v';repeat constructor) (hT:SlT Tryz.prog t e 1 bt zs:=by exact dsl)
 (h63:((xs.length+s.length)+(xs.length+s.length) / 4+192) * bt≤281474976710656:=by exact dl) (h64:xs.length+s.length≤1000000000000000:=by exact dl):SemK Tryz.prog (Builtin.append_ #[t,tx] ty #[v,S s]) w d ρ next:=appS hS hu hT hx h63 h64 k
end
def noC:Chk where
 ok _ F:=∀ b,¬ F b
 loc:=fun _ h=>h
theorem Ex.no {c:Chk} {L R:List Chk} (h:Ex c L R):∃ L',Up c noC L L'∧Ex noC L' R:=by
 induction h with
 | h=>exact ⟨_,.h,.h⟩
 | t _ ih=>obtain ⟨L',a,b⟩:=ih;exact ⟨_,.t a,.t b⟩
theorem freeze_parts (w:World) (a:Addr) (n:Nat):(w.freeze a n).heap.size=w.heap.size∧(w.freeze a n).os=w.os∧(w.freeze a n).tape=w.tape∧(w.freeze a n).output=w.output∧∀ b,b≠a.block→(w.freeze a n).heap[b]?=w.heap[b]?:=by
 unfold World.freeze
 split
 ·exact ⟨rfl,rfl,rfl,rfl,fun _ _=>rfl⟩
 ·refine ⟨by simp,rfl,rfl,rfl,fun b hb=>?_⟩
  simp [Array.getElem?_modify,Ne.symm hb]
theorem eU_take {xs:Str} {j:Nat} {x:UInt8} (h:xs[j]?=some x):(xs.flatMap eU.f)[j]?=some (.int .u8 x.toNat):=by
 rw [←byte_flat,List.getElem?_map,h];rfl
section
variable {P:Program} {ρ:Fr} {w w0:World} {d:Option Nat} {next:Fr→World→Prop} {L R:List Chk} {tu ty pt it:TypeId} {bv:Value} {xs:Str} {ts:Array TypeId}
theorem zusd (k:∀ q w',Sep w0 w' L→(xs≠[]→∃ g cap,bv=.slice (some ⟨g,0,none⟩) xs.length cap∧q=some ⟨g,0,none⟩)→next (updO ρ d (.pointer q)) w') (hS:Sep w0 w L) (he:Ex (accC bv tu eU xs) L R) {e:TypeId} (hp:P.underlying ty=some (.pointer e)):SemK P (Builtin.unsafeSliceData_ ts ty #[bv]) w d ρ next:=by
 obtain ⟨F,⟨h1,h2,h3,h4⟩,hF⟩:=hS.get he
 rcases h1.2 with ⟨rfl,h0⟩|⟨g,cap,cur,rfl,hbg,hg,hnc,hcm,hcs,htake⟩
 ·exact ⟨_,w,Lib.run_unsafeSliceData_nil w ts ty 0 0,k _ _ hS fun hx=>absurd (List.eq_nil_of_length_eq_zero h0) hx⟩
 ·by_cases hc:cap=0
  ·subst hc
   have hx:xs=[]:=List.eq_nil_of_length_eq_zero zo
   subst hx
   refine ⟨_,_,Lib.run_unsafeSliceData_zero w ts ty e hp ⟨g,0,none⟩ 0 (tu,cur.size) (by simp [World.shape?,hg]),k _ _ (hS.ext ((Ext.refl w).alloc _)) fun h=>absurd rfl h⟩
  ·exact ⟨_,w,Lib.run_unsafeSliceData_row w ts ty _ _ _ hc,k _ _ hS fun _=>⟨g,cap,rfl,rfl⟩⟩
theorem zust {q:Option Addr} (k:∀ w',Sep w0 w' R→next (updO ρ d (S xs)) w') (hS:Sep w0 w L) (he:Ex (accC bv tu eU xs) L R) (hq:xs≠[]→∃ g cap,bv=.slice (some ⟨g,0,none⟩) xs.length cap∧q=some ⟨g,0,none⟩) (hp:P.underlying pt=some (.pointer tu)) (hc:P.cellsOf tu=1) :
 SemK P (Builtin.unsafeString_ #[pt,it] ty #[.pointer q,I xs.length]) w d ρ next:=by
 by_cases hx:xs=[]
 ·subst hx
  exact ⟨_,w,Lib.run_unsafeString_none w pt it ty q,k _ (hS.drop he)⟩
 ·obtain ⟨g,cap,rfl,rfl⟩:=hq hx
  obtain ⟨F,⟨h1,h2,h3,h4⟩,hF⟩:=hS.get he
  have hcell:∀ j x,xs[j]?=some x→w.cell? ((⟨g,0,none⟩:Addr).add j)=some (.int .u8 x.toNat):=fun j x hj=>h1.cells (g:=g) rfl j _ (eU_take hj)
  rcases h1.2 with ⟨hv,_⟩|⟨g',cap',cur,hv,hbg,hg,hnc,hcm,hcs,htake⟩
  ·simp at hv
  simp only [Value.slice.injEq,Option.some.injEq,Addr.mk.injEq,and_true] at hv
  obtain ⟨rfl,_,rfl⟩:=hv
  have hsz:cur.size=cap:=by rw [hcs];exact Nat.mul_one _
  refine ⟨_,_,Lib.run_unsafeString_row w pt it ty tu hp hc g cur.size (by simp [World.shape?,hg]) xs hx zo h4 hcell,k _ ?_⟩
  obtain ⟨s1,s2,s3,s4,s5⟩:=freeze_parts w ⟨g,0,none⟩ xs.length
  obtain ⟨L',hu,hd⟩:=he.no
  refine Sep.drop (hS.change hu zo s2 s3 s4 ?_) hd
  rintro F' ⟨a1,a2,a3,a4⟩ hF'
  exact ⟨fun _=>False,fun b=>id,fun b hb=>hb.elim,fun b _ hb=>s5 b fun e=>hb (by rw [e];exact a2 g rfl)⟩
end
theorem u8_cells:Tryz.prog.cellsOf 5=1:=zf
theorem u8_ptr:Tryz.prog.underlying 90=some (.pointer 5):=zf
theorem bld_info:(Tryz.prog.info? 67).map (·.size)=some 2:=zf
theorem bld_has:∃ j,Tryz.prog.info? 67=some j:=by
 obtain ⟨j,hj,_⟩:=Option.map_eq_some_iff.1 bld_info
 exact ⟨j,hj⟩
theorem bld_lies:liesAt Tryz.prog Tryz.prog.depth 67 (2 / Tryz.prog.cellsOf 67) 0 67 1=true:=zf
theorem bld_ptr:Tryz.prog.underlying 64=some (.pointer 67):=zf
theorem bld_uns:Tryz.prog.underlying 132=some .unsafePointer:=zf
section
variable {ρ:Fr} {w w0:World} {d:Option Nat} {next:Fr→World→Prop} {L R:List Chk} {g:Nat} {cs:List Value}
theorem cv_to (hB:Blk w g 67 cs.toArray) (hc:cs.length=2) (h:next (updO ρ d (.pointer (some ⟨g,0,none⟩))) w):SemK Tryz.prog (convert 64 132 (.pointer (some ⟨g,0,none⟩))) w d ρ next:=by
 obtain ⟨j,hj,hjs⟩:=Option.map_eq_some_iff.1 bld_info
 exact ⟨_,w,Lib.run_to_unsafe w ⟨g,0,none⟩ bld_ptr bld_uns hj (by rw [hjs];decide) (blk_shape hB) (by show 0 < cs.length;rw [hc];decide),h⟩
theorem cv_from (hB:Blk w g 67 cs.toArray) (hc:cs.length=2) (h:next (updO ρ d (.pointer (some ⟨g,0,none⟩))) w):SemK Tryz.prog (convert 132 64 (.pointer (some ⟨g,0,none⟩))) w d ρ next:=by
 obtain ⟨j,hj,hjs⟩:=Option.map_eq_some_iff.1 bld_info
 refine ⟨_,w,Lib.run_from_unsafe w ⟨g,0,none⟩ bld_uns bld_ptr hj (blk_shape hB) ?_,h⟩
 show liesAt Tryz.prog Tryz.prog.depth 67 (cs.length / Tryz.prog.cellsOf 67) 0 67 1=true
 rw [hc];exact bld_lies
theorem O_noe {K:Fr→World→Prop} {rest:List ML} {ty:TypeId} {ts:Array TypeId} (x:Operand):O Tryz.prog K (⟨none,d,.raw (.call ⟨.value (.func 84),#[x],ts⟩) ty⟩ :: rest) ρ w=SemK Tryz.prog (pure (ev ρ x)) w d ρ (O Tryz.prog K rest):=by
 rw [O_raw]
 have hr:(execOp (ev ρ) (opr (.call ⟨.value (.func 84),#[x],ts⟩) ty)).run Tryz.prog w=.ok (.value (ev ρ x)) w:=by
  have h1:=run_callFunc_extern Tryz.func84 zf zf zf (e:=Extern.AbiNoEscape.same) zf #[ev ρ x] w
  simp only [Lib.run_noEscape,Result.andThen_ok] at h1
  have hE:execOp (ev ρ) (opr (.call ⟨.value (.func 84),#[x],ts⟩) ty)=callFunc 84 #[ev ρ x]:=by
   simp [execOp,resolve,Deferred.ofValue,invoke,ev]
  rw [hE,h1]
 apply propext
 constructor
 ·rintro (⟨v,w',h1,h2⟩|⟨w',h1,h2⟩|⟨f',args',w',h1,h2⟩)
  ·rw [hr] at h1;simp at h1;obtain ⟨rfl,rfl⟩:=h1;exact ⟨_,_,rfl,h2⟩
  ·rw [hr] at h1;simp at h1
  ·rw [hr] at h1;simp at h1
 ·rintro ⟨v,w',h1,h2⟩
  simp at h1;obtain ⟨rfl,rfl⟩:=h1
  exact .inl ⟨_,_,hr,h2⟩
theorem pureK {v:Value} (h:next (updO ρ d v) w):SemK Tryz.prog (pure v) w d ρ next:=⟨v,w,rfl,h⟩
end
def dgB (b:UInt8):Bool:=decide (48≤b.toNat∧b.toNat≤57)
def bodM (t:List UInt8):Bool:=decide (t≠[]∧t.take 1≠[48]) && t.all dgB
def canM (t:List UInt8):Bool:=decide (t=[48]) || bodM t
def negM (s:List UInt8):Bool:=decide (s.take 1=[45])
def trM (s:List UInt8):List UInt8:=if negM s=true then s.drop 1 else s
def formM (s:List UInt8):Bool:=decide (s=[48]) || bodM (trM s)
section
variable {ρ:Fr} {w:World} {d:Option Nat} {next:Fr→World→Prop}
theorem O_ibs {K:Fr→World→Prop} {rest:List ML} {ty:TypeId} {ts:Array TypeId} (x y:Operand):O Tryz.prog K (⟨none,d,.raw (.call ⟨.value (.func 173),#[x,y],ts⟩) ty⟩ :: rest) ρ w=SemK Tryz.prog (Extern.BytealgIndexByte.indexByte #[ev ρ x,ev ρ y]) w d ρ (O Tryz.prog K rest):=by
 rw [O_raw]
 have hE:execOp (ev ρ) (opr (.call ⟨.value (.func 173),#[x,y],ts⟩) ty)=callFunc 173 #[ev ρ x,ev ρ y]:=by
  simp [execOp,resolve,Deferred.ofValue,invoke,ev]
 have h1:=run_callFunc_extern Tryz.func173 zf zf zf (e:=Extern.BytealgIndexByte.indexByte) zf #[ev ρ x,ev ρ y] w
 unfold RawK SemK
 rw [hE,h1]
 apply propext
 cases hr:(Extern.BytealgIndexByte.indexByte #[ev ρ x,ev ρ y]).run Tryz.prog w<;>simp
theorem ibK {s:Str} {n:Int} (c:UInt8) (h:next (updO ρ d (I (Lib.indexByte s c))) w) (hc:(c.toNat:Int)=n):SemK Tryz.prog (Extern.BytealgIndexByte.indexByte #[S s,.int .u8 n]) w d ρ next:=by
 subst hc
 refine ⟨_,w,(Lib.run_indexByteString _ _ _).trans ?_,h⟩
 congr 2
 simp
end
attribute [local irreducible] SemK UnitK StK AlcK BslK CallK CallV Instr.box Builtin.append_ Instr.makeSlice Instr.makeMap Instr.lookup Instr.mapUpdate Instr.sliceAt convert
def c133:MC:=(Z (yr [qq 4 (.mv (ki 0))]) (Z (yr [qm 5 0,qm 6 1,qq 7 (.raw (.call ⟨(.value (.func 173)),#[(Y 5),(Y 6)],#[9,5]⟩) 3),qm 4 7]) .ret))
theorem ib1_spec (f:Str) (c:UInt8) (n:Int) (hn:(c.toNat:Int)=n) (w:World):Pu Tryz.prog 133 #[S f,U n] w (I (Lib.indexByte f c)):=by
 refine En 8 c133 Tryz.func133 ?_
 have hS:=Sep.start w
 repeat' (first|refine aM ?_|refine G.reg fun K hK=>?_|(refine kM ?_;clear hK K)|(refine kN ?_;clear hK K;intro wd hxd;have hS:=Sep.ext ‹_› hxd)|((first|have hk:=hK|have hk:=hK2);clear hk;simp (disch:=(first|exact dis|fail)) only [push_cast,↓reduceIte,zq1,zq2,zq3,zq4,zq5,O_ibs])|((first|refine brO_mk ?_ ?_|refine brQ_mk ?_ ?_)<;>intro hb<;>(try simp only [Bool.not_eq_true',Bool.not_eq_false'] at hb)<;>have hc:=hb<;>(try simp only [hcs,reduceCtorEq] at hc)<;>(try (exfalso;omega))<;>simp only [hb]<;>clear hb)|(refine zalc ?_;intro gb wb hS)|(refine zbsl ?_;intro gb wb hS)|((with_reducible (show SemK _ (Instr.box _ _) _ _ _ _));refine zbox ?_;intro gb wb hS)|((with_reducible (show StK _ _ (Value.pointer _) _ _ _ _ _));refine zst ?_;intro wb hS;(try simp only [sets] at hS))|(refine zcv ?_)|(refine ibK c ?_ hn)|(refine G.drt mixed fun K hK wd hxd=>?_;have hS:=Sep.ext ‹_› hxd)|with_reducible refine OT_leaf ?_|(with_reducible refine OT_tail fun K2 hK2=>?_)|(refine kO ?_;clear hK2 K2;intro wd hxd;have hS:=Sep.ext ‹_› hxd)|with_reducible refine OT_br fun K2 hK2=>?_|(refine hK2 _ _ ?_ ?_<;>clear hK2 K2)|refine G.drg mixed fun K hK=>?_|(refine G.cond (by simp only [push_cast,↓reduceIte,zq1,zq2,zq3,zq4,zq5,O_ibs];rfl) ?_ ?_<;>intro hc<;>(try simp only [hcs,reduceCtorEq] at hc)<;>(try (exfalso;omega))))
 refine rM ?_
 exact Sep.xt ‹_›
def Tab (w : World) : Prop := Lib.TabIs Tryz.prog w "internal/strconv.uint64pow10" .u64 Lib.pow10Tab
theorem tab_glob : Tryz.prog.globalNamed "internal/strconv.uint64pow10" = some 1 := by kernel_rfl
theorem Tab.lt {w:World} (h:Tab w):1 < w.heap.size:=by
 unfold Tab Lib.TabIs World.var? at h
 rw [tab_glob] at h
 simp only [Option.bind_some] at h
 rcases Nat.lt_or_ge 1 w.heap.size with h0|h0
 ·exact h0
 ·rw [Array.getElem?_eq_none zo] at h;simp at h
theorem Tab.ext {w w':World} (h:Tab w) (hx:Ext w w'):Tab w':=var?_below hx tab_glob h.lt h
open Go.RowKit Go.Shelf
def lays173_ren:Go.Shelf.Ren:=⟨fun|173=>156|246=>83|283=>121|284=>122|285=>123|286=>124|129=>162|317=>161|318=>163|319=>164|320=>165|337=>191|338=>192|n=>n,fun|2=>2|3=>3|9=>9|4=>4|171=>183|0=>0|53=>184|37=>65|5=>5|173=>187|212=>228|51=>229|20=>20|213=>230|46=>206|232=>265|233=>266|n=>n,fun|17=>1|18=>2|19=>3|n=>n⟩
theorem lays173:LaysM.n173 Tryz.prog lays173_ren where
 mixed:=zf
 f129:=Tryz.func162.trans (congrArg some zf)
 f173:=Tryz.func156.trans (congrArg some zf)
 f246:=Tryz.func83.trans (congrArg some zf)
 f283:=Tryz.func121.trans (congrArg some zf)
 f284:=Tryz.func122.trans (congrArg some zf)
 f285:=Tryz.func123.trans (congrArg some zf)
 f286:=Tryz.func124.trans (congrArg some zf)
 f317:=Tryz.func161.trans (congrArg some zf)
 f318:=Tryz.func163.trans (congrArg some zf)
 f319:=Tryz.func164.trans (congrArg some zf)
 f320:=Tryz.func165.trans (congrArg some zf)
 f337:=Tryz.func191.trans (congrArg some zf)
 f338:=Tryz.func192.trans (congrArg some zf)
 t0:=Tryz.underlying0
 a0:=Tryz.isAgg0
 z0:=Tryz.sizeOf0
 v0:=Tryz.zeroValue0
 t2:=Tryz.underlying2
 a2:=Tryz.isAgg2
 z2:=Tryz.sizeOf2
 v2:=Tryz.zeroValue2
 t3:=Tryz.underlying3
 a3:=Tryz.isAgg3
 z3:=Tryz.sizeOf3
 v3:=Tryz.zeroValue3
 t4:=Tryz.underlying4
 a4:=Tryz.isAgg4
 z4:=Tryz.sizeOf4
 v4:=Tryz.zeroValue4
 t5:=Tryz.underlying5
 a5:=Tryz.isAgg5
 z5:=Tryz.sizeOf5
 v5:=Tryz.zeroValue5
 t9:=Tryz.underlying9
 a9:=Tryz.isAgg9
 z9:=Tryz.sizeOf9
 v9:=Tryz.zeroValue9
 t20:=Tryz.underlying20
 a20:=Tryz.isAgg20
 z20:=Tryz.sizeOf20
 v20:=Tryz.zeroValue20
 t37:=Tryz.underlying65
 a37:=Tryz.isAgg65
 z37:=Tryz.sizeOf65
 v37:=Tryz.zeroValue65
 t46:=Tryz.underlying206
 a46:=Tryz.isAgg206
 z46:=Tryz.sizeOf206
 v46:=Tryz.zeroValue206
 t51:=Tryz.underlying229
 a51:=Tryz.isAgg229
 z51:=Tryz.sizeOf229
 v51:=Tryz.zeroValue229
 t53:=Tryz.underlying184
 a53:=Tryz.isAgg184
 z53:=Tryz.sizeOf184
 v53:=Tryz.zeroValue184
 t171:=Tryz.underlying183
 a171:=Tryz.isAgg183
 z171:=Tryz.sizeOf183
 v171:=Tryz.zeroValue183
 t173:=Tryz.underlying187
 a173:=Tryz.isAgg187
 z173:=Tryz.sizeOf187
 v173:=Tryz.zeroValue187
 t212:=Tryz.underlying228
 a212:=Tryz.isAgg228
 z212:=Tryz.sizeOf228
 v212:=Tryz.zeroValue228
 t213:=Tryz.underlying230
 a213:=Tryz.isAgg230
 z213:=Tryz.sizeOf230
 t232:=Tryz.underlying265
 a232:=Tryz.isAgg265
 z232:=Tryz.sizeOf265
 v232:=Tryz.zeroValue265
 t233:=Tryz.underlying266
 a233:=Tryz.isAgg266
 z233:=Tryz.sizeOf266
 v233:=Tryz.zeroValue266
 g17:=zf
 g18:=zf
 g19:=zf
 i0:=zf
 i2:=zf
 i3:=zf
 i4:=zf
 i5:=zf
 i9:=zf
 i20:=zf
 i37:=zf
 i46:=zf
 i51:=zf
 i53:=zf
 i171:=zf
 i173:=zf
 i212:=zf
 i232:=zf
 i233:=zf
 m17:=zf
 m18:=zf
 m19:=zf
theorem grow_ext (w:World) (k:Nat) (os:Array Obj):Ext w (Sort.grow (w.drewN k) os):=by
 refine ⟨rfl,rfl,rfl,?_,fun j hj=>?_⟩
 ·simp [Sort.grow,World.drewN]
 ·show (w.heap++os)[j]?=w.heap[j]?
  rw [Array.getElem?_append_left hj]
theorem fi_spec (n:Int) (w:World) (h0:-9223372036854775808≤n) (h1:n≤9223372036854775807) (ht:Tab w):Pu Tryz.prog 156 #[I n,I 10] w (S (Lib.itoa n)) :=
 Calls.mono (Go.Proofs.Any.strconv_FormatInt_10 lays173 n h0 h1 w ht) fun e w' ⟨he,k,os,hw⟩=>⟨_,he,rfl,by rw [hw];exact grow_ext w k os⟩
def lays171_ren:Go.Shelf.Ren:=⟨fun|171=>30|243=>52|246=>83|283=>121|284=>122|285=>123|286=>124|129=>162|317=>161|318=>163|319=>164|320=>165|337=>191|338=>192|n=>n,fun|3=>3|9=>9|2=>2|4=>4|171=>183|0=>0|53=>184|37=>65|5=>5|173=>187|212=>228|51=>229|20=>20|213=>230|46=>206|232=>265|233=>266|n=>n,fun|17=>1|18=>2|19=>3|n=>n⟩
theorem lays171:LaysM.n171 Tryz.prog lays171_ren where
 mixed:=zf
 f129:=Tryz.func162.trans (congrArg some zf)
 f171:=Tryz.func30.trans (congrArg some zf)
 f243:=Tryz.func52.trans (congrArg some zf)
 f246:=Tryz.func83.trans (congrArg some zf)
 f283:=Tryz.func121.trans (congrArg some zf)
 f284:=Tryz.func122.trans (congrArg some zf)
 f285:=Tryz.func123.trans (congrArg some zf)
 f286:=Tryz.func124.trans (congrArg some zf)
 f317:=Tryz.func161.trans (congrArg some zf)
 f318:=Tryz.func163.trans (congrArg some zf)
 f319:=Tryz.func164.trans (congrArg some zf)
 f320:=Tryz.func165.trans (congrArg some zf)
 f337:=Tryz.func191.trans (congrArg some zf)
 f338:=Tryz.func192.trans (congrArg some zf)
 t0:=Tryz.underlying0
 a0:=Tryz.isAgg0
 z0:=Tryz.sizeOf0
 v0:=Tryz.zeroValue0
 t2:=Tryz.underlying2
 a2:=Tryz.isAgg2
 z2:=Tryz.sizeOf2
 v2:=Tryz.zeroValue2
 t3:=Tryz.underlying3
 a3:=Tryz.isAgg3
 z3:=Tryz.sizeOf3
 v3:=Tryz.zeroValue3
 t4:=Tryz.underlying4
 a4:=Tryz.isAgg4
 z4:=Tryz.sizeOf4
 v4:=Tryz.zeroValue4
 t5:=Tryz.underlying5
 a5:=Tryz.isAgg5
 z5:=Tryz.sizeOf5
 v5:=Tryz.zeroValue5
 t9:=Tryz.underlying9
 a9:=Tryz.isAgg9
 z9:=Tryz.sizeOf9
 v9:=Tryz.zeroValue9
 t20:=Tryz.underlying20
 a20:=Tryz.isAgg20
 z20:=Tryz.sizeOf20
 v20:=Tryz.zeroValue20
 t37:=Tryz.underlying65
 a37:=Tryz.isAgg65
 z37:=Tryz.sizeOf65
 v37:=Tryz.zeroValue65
 t46:=Tryz.underlying206
 a46:=Tryz.isAgg206
 z46:=Tryz.sizeOf206
 v46:=Tryz.zeroValue206
 t51:=Tryz.underlying229
 a51:=Tryz.isAgg229
 z51:=Tryz.sizeOf229
 v51:=Tryz.zeroValue229
 t53:=Tryz.underlying184
 a53:=Tryz.isAgg184
 z53:=Tryz.sizeOf184
 v53:=Tryz.zeroValue184
 t171:=Tryz.underlying183
 a171:=Tryz.isAgg183
 z171:=Tryz.sizeOf183
 v171:=Tryz.zeroValue183
 t173:=Tryz.underlying187
 a173:=Tryz.isAgg187
 z173:=Tryz.sizeOf187
 v173:=Tryz.zeroValue187
 t212:=Tryz.underlying228
 a212:=Tryz.isAgg228
 z212:=Tryz.sizeOf228
 v212:=Tryz.zeroValue228
 t213:=Tryz.underlying230
 a213:=Tryz.isAgg230
 z213:=Tryz.sizeOf230
 t232:=Tryz.underlying265
 a232:=Tryz.isAgg265
 z232:=Tryz.sizeOf265
 v232:=Tryz.zeroValue265
 t233:=Tryz.underlying266
 a233:=Tryz.isAgg266
 z233:=Tryz.sizeOf266
 v233:=Tryz.zeroValue266
 g17:=zf
 g18:=zf
 g19:=zf
 i0:=zf
 i2:=zf
 i3:=zf
 i4:=zf
 i5:=zf
 i9:=zf
 i20:=zf
 i37:=zf
 i46:=zf
 i51:=zf
 i53:=zf
 i171:=zf
 i173:=zf
 i212:=zf
 i232:=zf
 i233:=zf
 m17:=zf
 m18:=zf
 m19:=zf
theorem itoa_spec (n:Int) (w:World) (h0:-9223372036854775808≤n) (h1:n≤9223372036854775807) (ht:Tab w):Pu Tryz.prog 30 #[I n] w (S (Lib.itoa n)) :=
 Calls.mono (Go.Proofs.Any.strconv_Itoa lays171 n h0 h1 w ht) fun e w' ⟨he,k,os,hw⟩=>⟨_,he,rfl,by rw [hw];exact grow_ext w k os⟩
theorem itoa_ln (i:Int) (h0:-9223372036854775808≤i) (h1:i≤9223372036854775807):(Lib.itoa i).length≤21:=Lib.itoa_length_le i h0 h1
def c145:MC:=(Z (yr [qq 4 (.mv (kb false))]) (Z (yr [qm 5 0,qq 6 (.lenS (Y 5)),qm 7 1,qq 8 (.lenS (Y 7)),qq 9 (yb .geq (Y 6) (Y 8)),qm 10 9,qmt 10 11 0,qmt 10 12 0,qt 10 13 (.lenS (Y 12)),qmt 10 14 1,qt 10 15 (.lenS (Y 14)),qt 10 16 (yb .sub (Y 13) (Y 15)),qt 10 17 (.slS (Y 11) (.some (Y 16)) none),qmt 10 18 1,qt 10 19 (yb .eql (Y 17) (Y 18)),qq 20 (.pick (Y 10) (Y 19) (kb false)),qm 4 20]) .ret))
def lays176_ren:Go.Shelf.Ren:=⟨fun|176=>151|249=>184|288=>202|283=>121|284=>122|285=>123|286=>124|129=>162|317=>161|318=>163|319=>164|320=>165|337=>191|338=>192|n=>n,fun|37=>65|2=>2|3=>3|53=>184|4=>4|9=>9|171=>183|0=>0|173=>187|212=>228|51=>229|5=>5|20=>20|213=>230|46=>206|232=>265|233=>266|n=>n,fun|17=>1|18=>2|19=>3|n=>n⟩
theorem lays176:LaysM.n176 Tryz.prog lays176_ren where
 mixed:=zf
 f129:=Tryz.func162.trans (congrArg some zf)
 f176:=Tryz.func151.trans (congrArg some zf)
 f249:=Tryz.func184.trans (congrArg some zf)
 f283:=Tryz.func121.trans (congrArg some zf)
 f284:=Tryz.func122.trans (congrArg some zf)
 f285:=Tryz.func123.trans (congrArg some zf)
 f286:=Tryz.func124.trans (congrArg some zf)
 f288:=Tryz.func202.trans (congrArg some zf)
 f317:=Tryz.func161.trans (congrArg some zf)
 f318:=Tryz.func163.trans (congrArg some zf)
 f319:=Tryz.func164.trans (congrArg some zf)
 f320:=Tryz.func165.trans (congrArg some zf)
 f337:=Tryz.func191.trans (congrArg some zf)
 f338:=Tryz.func192.trans (congrArg some zf)
 t0:=Tryz.underlying0
 a0:=Tryz.isAgg0
 z0:=Tryz.sizeOf0
 v0:=Tryz.zeroValue0
 t2:=Tryz.underlying2
 a2:=Tryz.isAgg2
 z2:=Tryz.sizeOf2
 v2:=Tryz.zeroValue2
 t3:=Tryz.underlying3
 a3:=Tryz.isAgg3
 z3:=Tryz.sizeOf3
 v3:=Tryz.zeroValue3
 t4:=Tryz.underlying4
 a4:=Tryz.isAgg4
 z4:=Tryz.sizeOf4
 v4:=Tryz.zeroValue4
 t5:=Tryz.underlying5
 a5:=Tryz.isAgg5
 z5:=Tryz.sizeOf5
 v5:=Tryz.zeroValue5
 t9:=Tryz.underlying9
 a9:=Tryz.isAgg9
 z9:=Tryz.sizeOf9
 v9:=Tryz.zeroValue9
 t20:=Tryz.underlying20
 a20:=Tryz.isAgg20
 z20:=Tryz.sizeOf20
 v20:=Tryz.zeroValue20
 t37:=Tryz.underlying65
 a37:=Tryz.isAgg65
 z37:=Tryz.sizeOf65
 v37:=Tryz.zeroValue65
 t46:=Tryz.underlying206
 a46:=Tryz.isAgg206
 z46:=Tryz.sizeOf206
 v46:=Tryz.zeroValue206
 t51:=Tryz.underlying229
 a51:=Tryz.isAgg229
 z51:=Tryz.sizeOf229
 v51:=Tryz.zeroValue229
 t53:=Tryz.underlying184
 a53:=Tryz.isAgg184
 z53:=Tryz.sizeOf184
 v53:=Tryz.zeroValue184
 t171:=Tryz.underlying183
 a171:=Tryz.isAgg183
 z171:=Tryz.sizeOf183
 v171:=Tryz.zeroValue183
 t173:=Tryz.underlying187
 a173:=Tryz.isAgg187
 z173:=Tryz.sizeOf187
 v173:=Tryz.zeroValue187
 t212:=Tryz.underlying228
 a212:=Tryz.isAgg228
 z212:=Tryz.sizeOf228
 v212:=Tryz.zeroValue228
 t213:=Tryz.underlying230
 a213:=Tryz.isAgg230
 z213:=Tryz.sizeOf230
 t232:=Tryz.underlying265
 a232:=Tryz.isAgg265
 z232:=Tryz.sizeOf265
 v232:=Tryz.zeroValue265
 t233:=Tryz.underlying266
 a233:=Tryz.isAgg266
 z233:=Tryz.sizeOf266
 v233:=Tryz.zeroValue266
 g17:=zf
 g18:=zf
 g19:=zf
 i0:=zf
 i2:=zf
 i3:=zf
 i4:=zf
 i5:=zf
 i9:=zf
 i20:=zf
 i37:=zf
 i46:=zf
 i51:=zf
 i53:=zf
 i171:=zf
 i173:=zf
 i212:=zf
 i232:=zf
 i233:=zf
 m17:=zf
 m18:=zf
 m19:=zf
theorem bytes_eU (l:Str):Lib.byteCells l=l.flatMap eU.f:=byte_flat l
theorem own_base {w:World} {b:Nat} {T:TypeId} {k:Nat} {v:Value} {n:Nat} {xs:List Value} (h:w.ownsRow 0 T k v n xs) (hb:∀ g,v.ownBlock=some g→b≤g):w.ownsRow b T k v n xs:=by
 refine ⟨h.1,?_⟩
 rcases h.2 with h|⟨g,cap,cur,hv,_,hr⟩
 ·exact .inl h
 ·exact .inr ⟨g,cap,cur,hv,hb g (by rw [hv];rfl),hr⟩
theorem own_block {w:World} {b:Nat} {T:TypeId} {k:Nat} {v:Value} {n:Nat} {xs:List Value} (h:w.ownsRow b T k v n xs) {g:Nat} (hg:v.ownBlock=some g):b≤g∧g < w.heap.size∧∃ cur,w.heap[g]?=some (.cells cur T (0,0)):=by
 rcases h.2 with ⟨rfl,_⟩|⟨g',cap,cur,rfl,hb,hh,_⟩
 ·simp [Value.ownBlock] at hg
 ·simp only [Value.ownBlock,Option.some.injEq] at hg
  subst hg
  exact ⟨hb,(Array.getElem?_eq_some_iff.1 hh).1,cur,hh⟩
theorem itoa_le (i:Int) (h0:-9223372036854775808≤i) (h1:i≤9223372036854775807):(Lib.itoa i).length≤21:=Lib.itoa_length_le i h0 h1
theorem ai_spec {w0 w:World} {v:Value} {xs:Str} {L:List Chk} {g:Nat} {t:TypeId} {cs:List Value} (i:Int) (h0:-9223372036854775808≤i) (h1:i≤9223372036854775807) (hS:Sep w0 w L) (he:Ex (accC v 5 eU xs) L [boxC g t cs]) (ht:t≠5) (hT:Tab w0) (hl:xs.length≤100000000000) :
 Ret Tryz.prog 151 #[v,I i,I 10] w fun res w'=>Sep w0 w' [accC res 5 eU (xs++Lib.itoa i),boxC g t cs]:=by
 have hS1:Sep w0 w (accC v 5 eU xs :: [boxC g t cs]):=hS.sub (.c he Sub.rfl')
 obtain ⟨hx,F,⟨q1,q2,q3,q4⟩,qF,F2,⟨r1,r2⟩,rF,_⟩:=hS1
 have hown:=own_base q1 (fun g hg=>(qF g (q2 g hg)).1)
 have hbw:w0.heap.size≤w.heap.size:=hx.size
 have htab : Lib.TabBelow Tryz.prog w0.heap.size w "internal/strconv.uint64pow10" .u64 Lib.pow10Tab := fun w' hb => hT.ext (Below.trans hx hb)
 refine Calls.mono (Go.Proofs.Any.strconv_AppendInt_10 lays176 w0.heap.size xs.length i h0 h1 v _ w hown hbw zo htab) fun e w'=>?_
 rintro ⟨v',rfl,o1,o2,o3⟩
 have hit:=itoa_le i h0 h1
 refine ⟨v',rfl,Below.trans hx o2,fun b=>v'.ownBlock=some b,⟨?_,fun g hg=>hg,?_,by rw [List.length_append];omega⟩,fun b hb=>⟨(own_block o1 hb).1,(own_block o1 hb).2.1,fun h=>h⟩,fun b=>b=g,⟨rfl,?_⟩,fun b hb=>?_,trivial⟩
 ·have e:(xs++Lib.itoa i).length=xs.length+(Lib.itoa i).length:=List.length_append
  have e2:(xs++Lib.itoa i).flatMap eU.f=xs.flatMap eU.f++Lib.byteCells (Lib.itoa i):=by rw [List.flatMap_append,bytes_eU]
  rw [e,e2]
  exact own_base (b:=0) ⟨o1.1,by
   rcases o1.2 with h|⟨g',cap,cur,hv,_,hr⟩
   ·exact .inl h
   ·exact .inr ⟨g',cap,cur,hv,Nat.zero_le _,hr⟩⟩ (fun _ _=>Nat.zero_le _)
 ·intro u hu
  rw [List.flatMap_append,List.mem_append] at hu
  rcases hu with hu|hu
  ·exact q3 u hu
  ·rw [←bytes_eU] at hu
   obtain ⟨b,_,rfl⟩:=List.mem_map.1 hu
   exact one_i
 ·show w'.heap[g]?=_
  exact o3 _ _ r2 ze (by intro c fz e;cases e;exact ht rfl)
 ·subst hb
  obtain ⟨a1,a2,_⟩:=rF b r1
  have hk:=o3 _ _ (show w.heap[b]?=some (.cells cs.toArray t (0,0)) from r2) ze (by intro c fz e;cases e;exact ht rfl)
  refine ⟨a1,by have:=o2.size;omega,?_⟩
  rintro (h|h)
  ·exact h
  ·obtain ⟨_,_,cur,hc⟩:=own_block o1 h
   rw [hk] at hc
   cases hc
   exact ht rfl
open Go.RowKit Go.MapKept
def lays156_ren:Go.Shelf.Ren:=⟨fun|156=>79|165=>117|166=>34|169=>36|240=>55|241=>158|276=>84|277=>186|n=>n,fun|31=>22|9=>9|3=>3|4=>4|0=>0|20=>20|72=>67|76=>70|70=>64|37=>65|75=>69|127=>90|164=>132|5=>5|80=>73|n=>n,fun|n=>n⟩
theorem lays156:Lays.n156 Tryz.prog lays156_ren where
 mixed:=zf
 f156:=Tryz.func79.trans (congrArg some zf)
 f165:=Tryz.func117.trans (congrArg some zf)
 f166:=Tryz.func34.trans (congrArg some zf)
 f169:=Tryz.func36.trans (congrArg some zf)
 f240:=Tryz.func55.trans (congrArg some zf)
 f241:=Tryz.func158.trans (congrArg some zf)
 f276:=Tryz.func84.trans (congrArg some zf)
 f277:=Tryz.func186.trans (congrArg some zf)
 t0:=Tryz.underlying0
 a0:=Tryz.isAgg0
 z0:=Tryz.sizeOf0
 v0:=Tryz.zeroValue0
 t3:=Tryz.underlying3
 a3:=Tryz.isAgg3
 z3:=Tryz.sizeOf3
 v3:=Tryz.zeroValue3
 t4:=Tryz.underlying4
 a4:=Tryz.isAgg4
 z4:=Tryz.sizeOf4
 v4:=Tryz.zeroValue4
 t9:=Tryz.underlying9
 a9:=Tryz.isAgg9
 z9:=Tryz.sizeOf9
 v9:=Tryz.zeroValue9
 t20:=Tryz.underlying20
 a20:=Tryz.isAgg20
 z20:=Tryz.sizeOf20
 v20:=Tryz.zeroValue20
 t31:=Tryz.underlying22
 a31:=Tryz.isAgg22
 z31:=Tryz.sizeOf22
 v31:=Tryz.zeroValue22
 t37:=Tryz.underlying65
 a37:=Tryz.isAgg65
 z37:=Tryz.sizeOf65
 v37:=Tryz.zeroValue65
 t70:=Tryz.underlying64
 a70:=Tryz.isAgg64
 z70:=Tryz.sizeOf64
 v70:=Tryz.zeroValue64
 t72:=Tryz.underlying67
 a72:=Tryz.isAgg67
 z72:=Tryz.sizeOf67
 v72:=Tryz.zeroValue67
 t75:=Tryz.underlying69
 a75:=Tryz.isAgg69
 z75:=Tryz.sizeOf69
 v75:=Tryz.zeroValue69
 t76:=Tryz.underlying70
 a76:=Tryz.isAgg70
 z76:=Tryz.sizeOf70
 v76:=Tryz.zeroValue70
 t127:=Tryz.underlying90
 a127:=Tryz.isAgg90
 z127:=Tryz.sizeOf90
 v127:=Tryz.zeroValue90
 t164:=Tryz.underlying132
 a164:=Tryz.isAgg132
 z164:=Tryz.sizeOf132
 v164:=Tryz.zeroValue132
theorem extra156:Builder.Extra Tryz.prog lays156_ren where
 sizeBuilder:=zf
 liesBuilder:=zf
 t5:=Tryz.underlying5
 a5:=Tryz.isAgg5
 z5:=Tryz.sizeOf5
 v5:=Tryz.zeroValue5
 infoByte:=zf
 cellsByte:=zf
 sizeByte:=zf
 neB5:=by decide
theorem eS_flat:∀ xs:List Str,xs.flatMap eS.f=xs.map S
 | []=>rfl
 | x :: r=>by rw [List.flatMap_cons,eS_flat r];rfl
theorem mk_back (xs:List Str):(xs.map fun s=>(⟨s.toArray⟩:ByteArray)).map (·.data.toList)=xs:=by
 rw [List.map_map]
 conv=>rhs;rw [←List.map_id xs]
 apply List.map_congr_left
 intro x _;simp
theorem joins_spec {v:Value} {xs:List Str} {w:World} (sep:Str) (hr:Rd w eS v xs) (hb:(Lib.join xs sep).length≤140737488355328) (hl:xs.length≤1000000):Pu Tryz.prog 79 #[v,S sep] w (S (Lib.join xs sep)):=by
 obtain ⟨p,cap,rfl,h2,h3,h4,h5⟩:=hr
 by_cases hx:xs=[]
 ·subst hx
  exact Calls.mono (Go.Proofs.Any.strings_Join_none lays156 extra156 p cap ⟨sep.toArray⟩ w) fun e w' ⟨h1,h2⟩=>⟨_,h1,rfl,h2 ▸ Ext.refl _⟩
 ·obtain ⟨a,rfl,hc⟩:=h5 (List.length_pos_iff.2 hx)
  rw [eS_flat] at hc
  have h0:(xs.map S)[0]?=some (S (xs.getD 0 [])):=by cases xs with|nil=>exact absurd rfl hx|cons x r=>rfl
  have hc0:=hc 0 _ h0
  have hsp:a.spot=none:=by simpa [Addr.add] using cell_spot hc0
  obtain ⟨g,o,sp⟩:=a
  simp only at hsp
  subst hsp
  rw [addg] at hc0
  have hg:g < w.heap.size:=by
   rcases Nat.lt_or_ge g w.heap.size with h|h
   ·exact h
   ·unfold World.cell? at hc0
    simp [Array.getElem?_eq_none h] at hc0
  have hk:=Go.Proofs.Any.strings_Join lays156 extra156 g o cap (xs.map fun s=>(⟨s.toArray⟩:ByteArray)) ⟨sep.toArray⟩ w (fun j x hj=>by
   rw [List.getElem?_map] at hj
   cases hxj:xs[j]? with
   | none=>rw [hxj] at hj;simp at hj
   | some s =>
     rw [hxj] at hj
     simp only [Option.map_some,Option.some.injEq] at hj
     subst hj
     have:=hc j (S s) (by rw [List.getElem?_map,hxj];rfl)
     rwa [addg] at this) hg (by rw [List.length_map];omega) (by rw [List.length_map];exact h2) (by rw [mk_back];exact hb)
  rw [mk_back,List.length_map] at hk
  refine Calls.mono hk fun e w' ⟨h1,h2⟩=>⟨_,h1,rfl,h2⟩
section
variable {α:Type} [Inhabited α]
def swapL (xs:List α) (i j:Nat):List α:=(xs.set i (xs.getD j default)).set j (xs.getD i default)
theorem getD_set (xs:List α) (i k:Nat) (y:α) (hi:i < xs.length):(xs.set i y).getD k default=if k=i then y else xs.getD k default:=by
 simp only [List.getD_eq_getElem?_getD,List.getElem?_set]
 by_cases h:i=k
 ·subst h;simp [hi]
 ·simp [h,Ne.symm h]
theorem swapL_at (xs:List α) (i j k:Nat) (hi:i < xs.length) (hj:j < xs.length):(swapL xs i j).getD k default=if k=j then xs.getD i default else if k=i then xs.getD j default else xs.getD k default:=by
 unfold swapL
 rw [getD_set _ _ _ _ (by simpa using hj),getD_set _ _ _ _ hi]
theorem swapL_perm (xs:List α) (i j:Nat) (hi:i < xs.length) (hj:j < xs.length):(swapL xs i j).Perm xs:=by
 unfold swapL
 have e1:xs.getD j default=xs[j]:=by simp [List.getD_eq_getElem?_getD,hj]
 have e2:xs.getD i default=xs[i]:=by simp [List.getD_eq_getElem?_getD,hi]
 rw [e1,e2]
 exact List.set_set_perm hi hj
structure Kept (a b:Nat) (xs ys:List α):Prop where
 perm:ys.Perm xs
 out:∀ k,k < a∨b≤k→ys.getD k default=xs.getD k default
theorem Kept.len {a b:Nat} {xs ys:List α} (h:Kept a b xs ys):ys.length=xs.length:=h.perm.length_eq
theorem Kept.refl (a b:Nat) (xs:List α):Kept a b xs xs:=⟨.refl _,fun _ _=>rfl⟩
theorem Kept.trans {a b:Nat} {xs ys zs:List α} (h:Kept a b xs ys) (h':Kept a b ys zs):Kept a b xs zs:=⟨h'.perm.trans h.perm,fun k hk=>(h'.out k hk).trans (h.out k hk)⟩
theorem Kept.wide {a b a' b':Nat} {xs ys:List α} (h:Kept a b xs ys) (ha:a'≤a) (hb:b≤b'):Kept a' b' xs ys:=⟨h.perm,fun k hk=>h.out k zo⟩
theorem Kept.src {a b:Nat} {xs ys:List α} (h:Kept a b xs ys) (hab:a≤b) (hb:b≤xs.length) (k:Nat) (hk:a≤k∧k < b):∃ k',(a≤k'∧k' < b)∧ys.getD k default=xs.getD k' default:=by
 have hl:=h.len
 have cut:∀ zs:List α,zs=zs.take a++((zs.drop a).take (b - a)++zs.drop b):=fun zs=>by
  conv=>lhs;rw [←List.take_append_drop a zs,←List.take_append_drop (b - a) (zs.drop a),List.drop_drop]
  rw [show a+(b - a)=b from by omega]
 have e1:ys.take a=xs.take a:=by
  apply List.ext_getElem?
  intro k
  rw [List.getElem?_take,List.getElem?_take]
  split
  ·rename_i hk
   have:=h.out k (.inl hk)
   simp only [List.getD_eq_getElem?_getD] at this
   rw [List.getElem?_eq_getElem zo,List.getElem?_eq_getElem zo] at this ⊢
   simpa using this
  ·rfl
 have e2:ys.drop b=xs.drop b:=by
  apply List.ext_getElem?
  intro k
  rw [List.getElem?_drop,List.getElem?_drop]
  have:=h.out (b+k) (.inr zo)
  simp only [List.getD_eq_getElem?_getD] at this
  by_cases hk:b+k < xs.length
  ·rw [List.getElem?_eq_getElem zo,List.getElem?_eq_getElem zo] at this ⊢
   simpa using this
  ·rw [List.getElem?_eq_none zo,List.getElem?_eq_none zo]
 have hp:=h.perm
 rw [cut ys,cut xs,e1,e2] at hp
 have hp2:((ys.drop a).take (b - a)).Perm ((xs.drop a).take (b - a)):=(List.perm_append_right_iff _).1 ((List.perm_append_left_iff _).1 hp)
 have hm:ys.getD k default∈(ys.drop a).take (b - a):=by
  rw [List.mem_take_iff_getElem]
  refine ⟨k - a,by simp;omega,?_⟩
  simp only [List.getElem_drop,List.getD_eq_getElem?_getD]
  rw [List.getElem?_eq_getElem zo]
  simp [show a+(k - a)=k from by omega]
 have hm2:=hp2.mem_iff.1 hm
 rw [List.mem_take_iff_getElem] at hm2
 obtain ⟨j,hj,he⟩:=hm2
 simp at hj
 refine ⟨a+j,by omega,?_⟩
 rw [←he]
 simp only [List.getElem_drop,List.getD_eq_getElem?_getD]
 rw [List.getElem?_eq_getElem zo];rfl
def Ord (P:α→α→Prop) (a b:Nat) (xs:List α):Prop:=∀ i j,a≤i→i < j→j < b→P (xs.getD i default) (xs.getD j default)
theorem Ord.same {P:α→α→Prop} {a b:Nat} {xs ys:List α} (h:Ord P a b xs) (e:∀ k,a≤k→k < b→ys.getD k default=xs.getD k default):Ord P a b ys:=fun i j h1 h2 h3=>by
 rw [e i h1 zo,e j zo h3];exact h i j h1 h2 h3
def rangeSw (a b n k:Nat):Nat:=if a≤k∧k < a+n then k+b - a else if b≤k∧k < b+n then k+a - b else k
def rotSw (a m b k:Nat):Nat:=if a≤k∧k < a+(b - m) then k+m - a else if a+(b - m)≤k∧k < b then k+m - b else k
def AtS (xs ys:List α) (f:Nat→Nat):Prop:=∀ k,ys.getD k default=xs.getD (f k) default
theorem range_step {a b n i:Nat} {xs cur:List α} (h:AtS xs cur (rangeSw a b i)) (hi:i < n) (hab:a+n≤b) (hl:cur.length=xs.length) (hb:b+n≤xs.length):AtS xs (swapL cur (a+i) (b+i)) (rangeSw a b (i+1)):=by
 intro k
 rw [swapL_at cur _ _ k zo zo,h,h,h]
 have ea:rangeSw a b i (a+i)=a+i:=by unfold rangeSw;rw [if_neg zo,if_neg zo]
 have eb:rangeSw a b i (b+i)=b+i:=by unfold rangeSw;rw [if_neg zo,if_neg zo]
 rw [ea,eb]
 have:∀ p q:Nat,p=q→xs.getD p default=xs.getD q default:=fun p q e=>by rw [e]
 split
 ·apply this;unfold rangeSw;rw [if_neg zo,if_pos zo];omega
 ·split
  ·apply this;unfold rangeSw;rw [if_pos zo];omega
  ·apply this;unfold rangeSw;(repeat' split)<;>omega
theorem rot_big {T cur cur':List α} {m i j:Nat} (hT:AtS cur T (rotSw (m - i) m (m+j))) (hc:AtS cur cur' (rangeSw (m - i) m j)) (hij:j < i) (him:i≤m):AtS cur' T (rotSw (m - (i - j)) m (m+j)):=by
 intro k
 rw [hT,hc]
 congr 1
 unfold rotSw rangeSw
 (repeat' split)<;>omega
theorem rot_small {T cur cur':List α} {m i j:Nat} (hT:AtS cur T (rotSw (m - i) m (m+j))) (hc:AtS cur cur' (rangeSw (m - i) (m+j - i) i)) (hij:i < j) (him:i≤m):AtS cur' T (rotSw (m - i) m (m+(j - i))):=by
 intro k
 rw [hT,hc]
 congr 1
 unfold rotSw rangeSw
 (repeat' split)<;>omega
theorem rot_last {T cur cur':List α} {m i:Nat} (hT:AtS cur T (rotSw (m - i) m (m+i))) (hc:AtS cur cur' (rangeSw (m - i) m i)) (him:i≤m):∀ k,T.getD k default=cur'.getD k default:=by
 intro k
 rw [hT,hc]
 congr 1
 unfold rotSw rangeSw
 (repeat' split)<;>omega
theorem range_zero (a b k:Nat):rangeSw a b 0 k=k:=by unfold rangeSw;rw [if_neg zo,if_neg zo]
end
section
variable {α:Type} (sc:α→Int) (ix:α→Nat)
def Bef (x y:α):Prop:=sc y < sc x∨sc x=sc y∧ix x < ix y
variable {sc ix}
theorem Bef.trans {x y z:α} (h:Bef sc ix x y) (h':Bef sc ix y z):Bef sc ix x z:=by unfold Bef at *;omega
theorem bef_lt {x y:α} (h:sc y < sc x):Bef sc ix x y:=.inl h
theorem bef_ge {x y:α} (h:¬ sc y < sc x) (hi:ix y < ix x):Bef sc ix y x:=by unfold Bef;omega
end
section
variable {α:Type} [Inhabited α] {sc:α→Int} {ix:α→Nat}
theorem Ord.le {P:α→α→Prop} {a b:Nat} {xs:List α} (h:Ord P a b xs) {i j:Nat} (h1:a≤i) (h2:i≤j) (h3:j < b) {y:α} (ht:∀ {x y z},P x y→P y z→P x z) (hy:P (xs.getD j default) y):P (xs.getD i default) y:=by
 rcases Nat.lt_or_ge i j with hl|hl
 ·exact ht (h i j h1 hl h3) hy
 ·rw [show i=j from by omega];exact hy
theorem Ord.ge {P:α→α→Prop} {a b:Nat} {xs:List α} (h:Ord P a b xs) {i j:Nat} (h1:a≤i) (h2:i≤j) (h3:j < b) {y:α} (ht:∀ {x y z},P x y→P y z→P x z) (hy:P y (xs.getD i default)):P y (xs.getD j default):=by
 rcases Nat.lt_or_ge i j with hl|hl
 ·exact ht hy (h i j h1 hl h3)
 ·rw [show j=i from by omega];exact hy
def mvDn (m i k:Nat):Nat:=if i < k∧k≤m then k - 1 else if k=i then m else k
def mvUp (a i k:Nat):Nat:=if a≤k∧k < i then k+1 else if k=i then a else k
theorem mvDn_self (m k:Nat):mvDn m m k=k:=by unfold mvDn;rw [if_neg zo];split<;>omega
theorem mvUp_self (a k:Nat):mvUp a a k=k:=by unfold mvUp;rw [if_neg zo];split<;>omega
theorem dn_step {m i:Nat} {xs cur:List α} (h:AtS xs cur (mvDn m (i+1))) (hi:i < m) (hl:m < cur.length):AtS xs (swapL cur (i+1) i) (mvDn m i):=by
 intro k
 rw [swapL_at cur _ _ k zo zo,h,h,h]
 have:∀ p q:Nat,p=q→xs.getD p default=xs.getD q default:=fun p q e=>by rw [e]
 split
 ·apply this;unfold mvDn;(repeat' split)<;>omega
 ·split<;>(apply this;unfold mvDn;(repeat' split)<;>omega)
theorem up_step {a i:Nat} {xs cur:List α} (h:AtS xs cur (mvUp a i)) (hi:a≤i) (hl:i+1 < cur.length):AtS xs (swapL cur i (i+1)) (mvUp a (i+1)):=by
 intro k
 rw [swapL_at cur _ _ k zo zo,h,h,h]
 have:∀ p q:Nat,p=q→xs.getD p default=xs.getD q default:=fun p q e=>by rw [e]
 split
 ·apply this;unfold mvUp;(repeat' split)<;>omega
 ·split<;>(apply this;unfold mvUp;(repeat' split)<;>omega)
theorem dn_ord {a m i:Nat} {xs ys:List α} (h:Ord (Bef sc ix) a m xs) (hy:AtS xs ys (mvDn m i)) (h1:a≤i) (h2:i≤m) (h3:i=a∨Bef sc ix (xs.getD (i - 1) default) (xs.getD m default)) (h4:i=m∨Bef sc ix (xs.getD m default) (xs.getD i default)):Ord (Bef sc ix) a (m+1) ys:=by
 intro p q hp hpq hq
 rw [hy p,hy q]
 unfold mvDn
 by_cases p1:i < p∧p≤m
 ·rw [if_pos p1,if_pos zo];exact h _ _ zo zo zo
 ·rw [if_neg p1]
  by_cases p2:p=i
  ·rw [if_pos p2,if_pos zo]
   rcases h4 with h4|h4
   ·omega
   ·exact h.ge (i:=i) (j:=q - 1) zo zo zo Bef.trans h4
  ·rw [if_neg p2]
   by_cases q1:i < q∧q≤m
   ·rw [if_pos q1];exact h _ _ zo zo zo
   ·rw [if_neg q1]
    by_cases q2:q=i
    ·rw [if_pos q2]
     rcases h3 with h3|h3
     ·omega
     ·exact h.le (i:=p) (j:=i - 1) zo zo zo Bef.trans h3
    ·rw [if_neg q2];exact h _ _ zo zo zo
theorem up_ord {a b i:Nat} {xs ys:List α} (h:Ord (Bef sc ix) (a+1) b xs) (hy:AtS xs ys (mvUp a i)) (h1:a≤i) (h2:i < b) (h3:i=a∨Bef sc ix (xs.getD i default) (xs.getD a default)) (h4:i+1=b∨Bef sc ix (xs.getD a default) (xs.getD (i+1) default)):Ord (Bef sc ix) a b ys:=by
 intro p q hp hpq hq
 rw [hy p,hy q]
 unfold mvUp
 by_cases q1:a≤q∧q < i
 ·rw [if_pos q1,if_pos zo];exact h _ _ zo zo zo
 ·rw [if_neg q1]
  by_cases q2:q=i
  ·rw [if_pos q2,if_pos zo]
   rcases h3 with h3|h3
   ·omega
   ·exact h.le (i:=p+1) (j:=i) zo zo zo Bef.trans h3
  ·rw [if_neg q2]
   by_cases p1:a≤p∧p < i
   ·rw [if_pos p1];exact h _ _ zo zo zo
   ·rw [if_neg p1]
    by_cases p2:p=i
    ·rw [if_pos p2]
     rcases h4 with h4|h4
     ·omega
     ·exact h.ge (i:=i+1) (j:=q) zo zo zo Bef.trans h4
    ·rw [if_neg p2];exact h _ _ zo zo zo
variable (sc ix)
structure MgPre (a m b:Nat) (xs:List α):Prop where
 am:a≤m
 mb:m≤b
 len:b≤xs.length
 l:Ord (Bef sc ix) a m xs
 r:Ord (Bef sc ix) m b xs
 s:∀ i j,a≤i→i < m→m≤j→j < b→ix (xs.getD i default) < ix (xs.getD j default)
structure MgPost (a b:Nat) (xs ys:List α):Prop where
 kept:Kept a b xs ys
 ord:Ord (Bef sc ix) a b ys
variable {sc ix}
theorem MgPre.at_l {a b:Nat} {xs:List α} (h:MgPre sc ix a a b xs):MgPost sc ix a b xs xs:=⟨Kept.refl _ _ _,h.r⟩
theorem MgPre.at_r {a b:Nat} {xs:List α} (h:MgPre sc ix a b b xs):MgPost sc ix a b xs xs:=⟨Kept.refl _ _ _,h.l⟩
theorem MgPre.same {a m b:Nat} {xs ys:List α} (h:MgPre sc ix a m b xs) (hl:ys.length=xs.length) (e:∀ k,a≤k→k < b→ys.getD k default=xs.getD k default):MgPre sc ix a m b ys :=
 ⟨h.am,h.mb,by rw [hl];exact h.len,h.l.same fun k h1 h2=>e k h1 (by have:=h.mb;omega),h.r.same fun k h1 h2=>e k (by have:=h.am;omega) h2,fun i j h1 h2 h3 h4=>by
  rw [e i h1 zo,e j zo h4];exact h.s i j h1 h2 h3 h4⟩
theorem mg_split {a m b mid s e:Nat} {xs cur:List α} (h:MgPre sc ix a m b xs) (hmid:mid=(a+b) / 2) (ha:a≤s) (hs:s≤m) (hsm:s≤mid) (he:e+s=mid+m) (hb:e≤b)
 (h1:s=a∨e=b∨Bef sc ix (xs.getD (s - 1) default) (xs.getD e default)) (h2:s=m∨e=m∨Bef sc ix (xs.getD (e - 1) default) (xs.getD s default)) (hc:AtS xs cur (rotSw s m e)) (hl:cur.length=xs.length) :
 MgPre sc ix a s mid cur∧MgPre sc ix mid e b cur∧∀ i j,a≤i→i < mid→mid≤j→j < b→Bef sc ix (cur.getD i default) (cur.getD j default):=by
 have hlen:=h.len
 have hr:∀ k,rotSw s m e k=if s≤k∧k < mid then k+m - s else if mid≤k∧k < e then k+m - e else k:=fun k=>by
  unfold rotSw;rw [show s+(e - m)=mid from by omega]
 have hmb:=h.mb
 have ham:=h.am
 have cA:∀ k,k < s→cur.getD k default=xs.getD k default:=fun k hk=>by rw [hc,hr,if_neg zo,if_neg zo]
 have cB:∀ k,s≤k→k < mid→cur.getD k default=xs.getD (k+m - s) default:=fun k h1 h2=>by rw [hc,hr,if_pos zo]
 have cC:∀ k,mid≤k→k < e→cur.getD k default=xs.getD (k+m - e) default:=fun k h1 h2=>by rw [hc,hr,if_neg zo,if_pos zo]
 have cD:∀ k,mid≤k→e≤k→cur.getD k default=xs.getD k default:=fun k h1 h2=>by rw [hc,hr,if_neg zo,if_neg zo]
 refine ⟨⟨ha,hsm,by omega,?_,?_,?_⟩,⟨by omega,hb,by omega,?_,?_,?_⟩,?_⟩
 ·intro i j p q t;rw [cA i zo,cA j zo];exact h.l i j zo q zo
 ·intro i j p q t;rw [cB i p zo,cB j zo t];exact h.r _ _ zo zo zo
 ·intro i j p q t u;rw [cA i q,cB j t u];exact h.s _ _ zo zo zo zo
 ·intro i j p q t;rw [cC i p zo,cC j zo t];exact h.l _ _ zo zo zo
 ·intro i j p q t;rw [cD i zo p,cD j zo zo];exact h.r _ _ zo q t
 ·intro i j p q t u;rw [cC i p q,cD j zo t];exact h.s _ _ zo zo zo zo
 ·intro i j p q t u
  rcases Nat.lt_or_ge i s with hi|hi
  ·rw [cA i hi]
   rcases Nat.lt_or_ge j e with hj|hj
   ·rw [cC j t hj];exact h.l _ _ zo zo zo
   ·rw [cD j t hj]
    rcases h1 with h1|h1|h1
    ·omega
    ·omega
    ·exact h.r.ge (i:=e) zo hj u Bef.trans (h.l.le (j:=s - 1) p zo zo Bef.trans h1)
  ·rw [cB i hi q]
   rcases Nat.lt_or_ge j e with hj|hj
   ·rw [cC j t hj]
    rcases h2 with h2|h2|h2
    ·omega
    ·omega
    ·exact h.l.ge (i:=s) zo zo zo Bef.trans (h.r.le (j:=e - 1) zo zo zo Bef.trans h2)
   ·rw [cD j t hj];exact h.r _ _ zo zo zo
theorem mg_join {a m b mid:Nat} {xs cur c1 c2:List α} (hk:Kept a b xs cur) (ha:a≤mid) (hmb:mid≤b) (hlen:b≤xs.length)
 (hx:∀ i j,a≤i→i < mid→mid≤j→j < b→Bef sc ix (cur.getD i default) (cur.getD j default)) (h1:MgPost sc ix a mid cur c1) (h2:MgPost sc ix mid b c1 c2):MgPost sc ix a b xs c2:=by
 have l0:=hk.len
 have l1:=h1.kept.len
 refine ⟨(hk.trans (h1.kept.wide (Nat.le_refl _) hmb)).trans (h2.kept.wide ha (Nat.le_refl _)),fun i j p q t=>?_⟩
 rcases Nat.lt_or_ge j mid with hj|hj
 ·rw [h2.kept.out i zo,h2.kept.out j zo];exact h1.ord i j p q hj
 ·rcases Nat.lt_or_ge i mid with hi|hi
  ·rw [h2.kept.out i zo]
   obtain ⟨i',hi',e1⟩:=h1.kept.src ha zo i ⟨p,hi⟩
   obtain ⟨j',hj',e2⟩:=h2.kept.src hmb zo j ⟨hj,t⟩
   rw [e1,e2,h1.kept.out j' zo]
   exact hx i' j' hi'.1 hi'.2 hj'.1 hj'.2
  ·exact h2.ord i j hi q t
theorem Kept.of_at {a b:Nat} {xs ys:List α} (hp:ys.Perm xs) {f:Nat→Nat} (h:AtS xs ys f) (hf:∀ k,k < a∨b≤k→f k=k):Kept a b xs ys:=⟨hp,fun k hk=>by rw [h,hf k hk]⟩
theorem rot_out {s m e k:Nat} (h1:s≤m) (h2:m≤e) (h:k < s∨e≤k):rotSw s m e k=k:=by unfold rotSw;rw [if_neg zo,if_neg zo]
theorem rot_l (m e k:Nat):rotSw m m e k=k:=by unfold rotSw;(repeat' split)<;>omega
theorem rot_r (s m k:Nat):rotSw s m m k=k:=by unfold rotSw;(repeat' split)<;>omega
end
theorem wts_mem {H:Type} {P:Program} {e:TypeId} {n:Nat} {x:DataW H}:∀ {l:List (DataW H)},x∈l→n∈x.weights P e→n∈DataW.weightsAll P e l
 | [],h,_=>by simp at h
 | y :: l,h,hn=>by
   rw [DataW.weightsAll]
   rcases List.mem_cons.1 h with rfl|h
   ·exact List.mem_append.2 (.inl hn)
   ·exact List.mem_append.2 (.inr (wts_mem h hn))
theorem open_rdW {P:Program} {t e:TypeId} {H:Type} {enc:TypeId×Value→H} {w:World} {base:Nat} {sp:Nat→Bool} {hd:Bool} {r:Reach} {b0:Nat} {v:Value} {d:DataW H} {ps:List MemPlace}
 (ht:P.underlying t=some (.slice e)) (he:P.underlying e=some .string) (h1:P.cellsOf e=1) (hval:Value.okWide P w r b0 t v) (h:DataW.Trod enc P w base sp hd t v d ps):∃ xs:List Str,Rd w eS v xs∧∀ s∈xs,s.length∈DataW.weights P t d:=by
 obtain ⟨fuel,h⟩:=h
 rcases Go.Deep.open_slice1 ht h1 h with ⟨hc,_⟩|⟨a,len,cap,m,n,V,D,Pl,hc,hb,hl,hm,hmm,hx,hall⟩
 ·have:=slice_val (d:=d) (ps:=ps) (enc:=enc) (base:=base) (sp:=sp) (hd:=hd) ht hval hc
  subst this
  exact ⟨[],⟨none,0,rfl,by simp,by simp,by simp,by simp⟩,by simp⟩
 ·have := slice_val (d:=d) (ps:=ps) (enc:=enc) (base:=base) (sp:=sp) (hd:=hd) ht hval hc
  subst this
  have hlm:len≤m:=by rw [hmm];split<;>omega
  have hex:∀ i,i < len→∃ s:Str,V i=S s∧D i=.lit (.string s):=by
   intro i hi
   obtain ⟨_,h2⟩:=hall i zo
   obtain ⟨s,e1,e2,_⟩:=DataW.trod_string he h2
   simp at e1 e2
   exact ⟨s.data.toList,by rw [e1];exact S_eq s,e2.1⟩
  obtain ⟨f,hf⟩:=Go.Deep.choose_lt hex
  unfold maxLen at hm
  refine ⟨(List.range len).map f,⟨some a,cap,by simp,by simp;omega,by simp;omega,?_,fun h0=>⟨a,rfl,?_⟩⟩,?_⟩
  ·intro u hu
   obtain ⟨y,hy,hu⟩:=List.mem_flatMap.1 hu
   simp [eS] at hu
   subst hu
   exact one_s
  ·intro j u hj
   have e1:((List.range len).map f).flatMap eS.f=(List.range len).map fun i=>S (f i):=by
    induction List.range len with
    | nil=>rfl
    | cons x l ih=>rw [List.map_cons,List.flatMap_cons,ih];rfl
   rw [e1] at hj
   have hjl:j < len:=by
    rcases Nat.lt_or_ge j len with q|q
    ·exact q
    ·rw [List.getElem?_eq_none (by simpa using q)] at hj;cases hj
   have h5:=(hall j zo).1
   rw [List.getElem?_map,List.getElem?_range hjl] at hj
   simp at hj
   rw [←hj,←(hf j hjl).1];exact h5
  ·have e2:=congrArg Prod.fst hx
   simp only at e2
   intro s hs
   obtain ⟨i,hi,rfl⟩:=List.mem_map.1 hs
   have hD:=(hf i (List.mem_range.1 hi)).2
   rw [e2,DataW.weights,ht]
   dsimp only
   refine List.mem_cons_of_mem _ (List.mem_append.2 (.inl (wts_mem (x:=D i) (List.mem_map.2 ⟨i,hi,rfl⟩) ?_)))
   rw [hD,DataW.weights];simp
theorem tab_of {W : World} {l : List (String × DataW Unit)} (hp : (l.all fun x => x.2.handleName?.isNone) = true) (hl : l.filter (fun x => x.1 == "internal/strconv.uint64pow10") = [("internal/strconv.uint64pow10", Lib.tabData .u64 Lib.pow10Tab)])
 (h:laidMetH Tryz.prog l W):Tab W:=by
 rw [MakeChecks.laidMetH_plain _ _ _ hp] at h
 have h2 := h.filter fun x => x.1 == "internal/strconv.uint64pow10"
 rw [hl] at h2
 exact Lib.tabIs_of_head tab_glob (show (Tryz.prog.globals[1]?).map (·.type)=some 228 by kernel_rfl) Tryz.underlying228 Tryz.underlying184 zf zf h2
end Go.Proofs.YtllanbmpacgigaaGreatDoor
