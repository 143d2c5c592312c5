/- Texts of the proof, joined. -/
import Derived.Test.YtjajihaeoolefaaGreatDoorBZ25
import Derived.Test.YtjajihaeoolefaaGreatDoorBOz
namespace Go.Proofs.YtjajihaeoolefaaGreatDoor
set_option linter.unusedSimpArgs false
set_option linter.unusedVariables false
open Go.RowKit Go.WideShapes Go.ChangeShapes
def OpensAt {α:Type} (P:Program) (t:TypeId) (E:Enc α) (good:World→α→Prop):Prop :=
  ∀ {H:Type} (enc:TypeId×Value→H) (w:World) (base:Nat) (sp:Nat→Bool) (hd:Bool) (fuel:Nat) (cs:List Value) (x:DataW H×List MemPlace),
    DataW.trod enc P w base sp hd fuel t cs=some x→∃ a,cs=E.f a∧good w a∧∀ u∈cs,One u
section
variable {P:Program} {t e:TypeId}
theorem cells_rdW {α:Type} {E:Enc α} {good:World→α→Prop} {H:Type} {enc:TypeId×Value→H} {w:World} {base:Nat} {sp:Nat→Bool} {hd:Bool} {fuel:Nat} {cs:List Value} {x:DataW H×List MemPlace} [Inhabited α]
    (ht:P.underlying t=some (.slice e)) (hE:OpensAt P e E good) (hsz:P.cellsOf e=E.sz) (hp:0 < E.sz) (h:DataW.trod enc P w base sp hd fuel t cs=some x) :
    ∃ v xs,cs=[v]∧Rd w E v xs∧(∀ a∈xs,good w a)∧(∃ p n c,v=.slice p n c):=by
  rcases Go.Deep.open_slice ht h with ⟨rfl,_⟩|⟨a,len,cap,m,n,D,Pl,rfl,hb,hl,hm,hmm,_,hall⟩
  · exact ⟨_,[],rfl,⟨none,0,rfl,by simp,by simp,by simp,by simp⟩,by simp,_,_,_,rfl⟩
  · have hlm:len≤m:=by rw [hmm];split<;>omega
    have hex:∀ i,i < len→∃ y:α,good w y∧(∀ u∈E.f y,One u)∧∀ j,j < E.sz→w.cell? ((a.add (i * E.sz)).add j)=(E.f y)[j]?:=by
      intro i hi
      obtain ⟨cs',h1,h2⟩:=hall i (by omega)
      obtain ⟨y,rfl,hg,ho⟩:=hE enc w base sp hd n cs' _ h2
      refine ⟨y,hg,ho,fun j hj=>?_⟩
      rw [hsz] at h1
      exact (World.cells?_some h1).2.2 j hj
    obtain ⟨f,hf⟩:=Go.Deep.choose_lt hex
    let xs:=(List.range len).map f
    have hxl:xs.length=len:=by simp [xs]
    have hxi:∀ i (hi:i < xs.length),xs[i]=f i:=by intro i hi;simp [xs]
    unfold maxLen at hm
    refine ⟨_,xs,rfl,⟨some a,cap,by rw [hxl],by omega,by omega,?_,fun h0=>⟨a,rfl,?_⟩⟩,?_,_,_,_,rfl⟩
    · intro u hu
      obtain ⟨y,hy,hu⟩:=List.mem_flatMap.1 hu
      obtain ⟨i,hi,rfl⟩:=List.mem_map.1 hy
      exact (hf i (List.mem_range.1 hi)).2.1 u hu
    · have hsp:a.spot=none:=by
        have h1:=(hf 0 (by omega)).2.2 0 hp
        rw [List.getElem?_eq_getElem (by rw [E.len];exact hp)] at h1
        have:=cell_spot h1
        simpa [Addr.add] using this
      intro j u hj
      have hjl:j < len * E.sz:=by
        rcases Nat.lt_or_ge j (len * E.sz) with q|q
        · exact q
        · rw [List.getElem?_eq_none (by rw [flat_len,hxl];exact q)] at hj;cases hj
      have hd':j / E.sz < len:=Nat.div_lt_of_lt_mul (by rw [Nat.mul_comm];exact hjl)
      have hm':j % E.sz < E.sz:=Nat.mod_lt _ hp
      have he:j=(j / E.sz) * E.sz+j % E.sz:=by rw [Nat.mul_comm];exact (Nat.div_add_mod j E.sz).symm
      have h2:=flat_at E xs (j / E.sz) (j % E.sz) (by omega) hm'
      rw [←he,hj,hxi] at h2
      have h3:=(hf (j / E.sz) hd').2.2 (j % E.sz) hm'
      rw [add_add _ _ _ hsp,←he,←h2] at h3
      exact h3
    · intro y hy
      obtain ⟨i,hi,rfl⟩:=List.mem_map.1 hy
      exact (hf i (List.mem_range.1 hi)).1
theorem opensAt_slot {α:Type} {E:Enc α} {good:α→Prop} {q:TypeId} [Inhabited α] (hq:P.underlying e=some (.slice q)) (hE:Opens P q E good) (hsz:P.cellsOf q=E.sz) (hp:0 < E.sz) :
    OpensAt P e eV (fun w v=>∃ xs:List α,Rd w E v xs∧∀ a∈xs,good a):=by
  intro H enc w base sp hd fuel cs x hx
  obtain ⟨v,xs,rfl,h1,h2,_⟩:=cells_rd hq hE hsz hp hx
  exact ⟨v,rfl,⟨xs,h1,h2⟩,fun u hu=>by rw [List.mem_singleton.1 hu];exact h1.one⟩
theorem rdT_choose {α:Type} {E:Enc α} {good:α→Prop} {w:World} {v:Value} {vs:List Value} (h:Rd w eV v vs) (hg:∀ a∈vs,∃ xs:List α,Rd w E a xs∧∀ y∈xs,good y):∃ t,RdT w E v t∧∀ r∈t,∀ y∈r,good y:=by
  have hex:∀ i,i < vs.length→∃ xs:List α,Rd w E (vs.getD i default) xs∧∀ y∈xs,good y:=fun i hi=>hg _ (by rw [List.getD_eq_getElem?_getD,List.getElem?_eq_getElem hi];exact List.getElem_mem hi)
  obtain ⟨f,hf⟩:=Go.Deep.choose_lt hex
  refine ⟨(List.range vs.length).map f,⟨vs,h,by simp,fun i hi=>?_⟩,fun r hr=>?_⟩
  · simp at hi
    rw [show ((List.range vs.length).map f).getD i []=f i by simp [hi]]
    exact (hf i hi).1
  · obtain ⟨i,hi,rfl⟩:=List.mem_map.1 hr
    exact (hf i (List.mem_range.1 hi)).2
theorem tab_trod {tl tr ec er q:TypeId} {goodc:Col→Prop} {good:Val→Prop} {H:Type} {enc:TypeId×Value→H} {w:World} {base:Nat} {sp:Nat→Bool} {hd:Bool} {fuel:Nat} {cs:List Value} {x:DataW H×List MemPlace}
    (h:flatTs P t=some [tl,tr]) (hl:P.underlying tl=some (.slice ec)) (hC:Opens P ec eC goodc) (hcz:P.cellsOf ec=eC.sz) (hr:P.underlying tr=some (.slice er)) (hq:P.underlying er=some (.slice q)) (hE:Opens P q eVal good) (hsz:P.cellsOf q=eVal.sz) (h1:P.cellsOf er=1)
    (hx:DataW.trod enc P w base sp hd fuel t cs=some x):∃ vl vr l rows,cs=[vl,vr]∧Rd w eC vl l∧RdT w eVal vr rows∧(∀ c∈l,goodc c)∧∀ r∈rows,∀ v∈r,good v:=by
  obtain ⟨hlen,hf⟩:=flat_trod h hx
  match cs,hlen with
  | [a,b],_ =>
    obtain ⟨f0,y0,h0⟩:=hf 0 (by simp)
    obtain ⟨f1,y1,h1'⟩:=hf 1 (by simp)
    obtain ⟨v1,x1,e1,r1,g1,_⟩:=cells_rd hl hC hcz (by decide) h0
    obtain ⟨v2,x2,e2,r2,g2,_⟩:=cells_rdW hr (opensAt_slot hq hE hsz (by decide)) h1 (by decide) h1'
    simp at e1 e2
    subst e1;subst e2
    obtain ⟨t,t1,t2⟩:=rdT_choose r2 g2
    exact ⟨_,_,x1,t,rfl,r1,t1,g1,t2⟩
theorem agg_cs {v:Value} {cs:List Value} (h:v.cells.toList=cs) (h2:2≤cs.length):v=.agg cs.toArray:=by
  cases v with
  | agg xs=>have:xs.toList=cs:=h;rw [←this]
  | _=>subst h;simp [Value.cells] at h2
end
end Go.Proofs.YtjajihaeoolefaaGreatDoor
namespace Go.Proofs.YtjajihaeoolefaaGreatDoor
set_option linter.unusedSimpArgs false
set_option linter.unusedVariables false
open Go.RowKit Go.WideShapes Go.ChangeShapes
section
variable {P:Program} {t e:TypeId}
def caseTs (P:Program) (t:TypeId):Option (TypeId×TypeId) :=
  match P.underlying t with
  | some (.struct fs)=>match fs[0]?,fs[1]?,fs[2]? with
    | some a,some b,some d=>if ((a.offset=0∧b.offset=2)∧d.offset=4)∧b.type=a.type∧P.cellsOf t=5∧P.cellsOf a.type=2∧P.cellsOf d.type=1 then some (a.type,d.type) else none
    | _,_,_=>none
  | _=>none
theorem case_trod {H:Type} {enc:TypeId×Value→H} {w:World} {base:Nat} {sp:Nat→Bool} {hd:Bool} {fuel:Nat} {cs:List Value} {x:DataW H×List MemPlace} {tt ts:TypeId} (h:caseTs P t=some (tt,ts)) (hx:DataW.trod enc P w base sp hd fuel t cs=some x) :
    cs.length=5∧(∃ f y,DataW.trod enc P w base sp hd f tt ((cs.drop 0).take 2)=some y)∧(∃ f y,DataW.trod enc P w base sp hd f tt ((cs.drop 2).take 2)=some y)∧∃ f y,DataW.trod enc P w base sp hd f ts ((cs.drop 4).take 1)=some y:=by
  unfold caseTs at h
  split at h
  · rename_i fs hu
    split at h
    · rename_i a b d h0 h1 h3
      split at h
      · rename_i hc
        obtain ⟨⟨⟨o0,o1⟩,o3⟩,t1,c7,c2,c1⟩:=hc
        simp only [Option.some.injEq,Prod.mk.injEq] at h
        obtain ⟨rfl,rfl⟩:=h
        obtain ⟨_,_,_,_,hlen,_,_⟩:=DataW.trod_struct hu hx
        have y0:=field_trod hu hx 0 a h0
        have y1:=field_trod hu hx 1 b h1
        have y3:=field_trod hu hx 2 d h3
        rw [o0,c2] at y0
        rw [o1,t1,c2] at y1
        rw [o3,c1] at y3
        exact ⟨by rw [hlen,c7],y0,y1,y3⟩
      · cases h
    · cases h
  · cases h
theorem open_case {tt ts e tl tr ec er q:TypeId} {goodc:Col→Prop} {good:Val→Prop} {goods:Str→Prop} {H:Type} {enc:TypeId×Value→H} {w:World} {base:Nat} {sp:Nat→Bool} {hd:Bool} {v:Value} {d:DataW H} {ps:List MemPlace}
    (h3:caseTs P t=some (tt,ts)) (hs:P.underlying ts=some (.slice e)) (hS:Opens P e eS goods) (hsc:P.cellsOf e=eS.sz)
    (h:flatTs P tt=some [tl,tr]) (hl:P.underlying tl=some (.slice ec)) (hC:Opens P ec eC goodc) (hcz:P.cellsOf ec=eC.sz) (hr:P.underlying tr=some (.slice er)) (hq:P.underlying er=some (.slice q)) (hE:Opens P q eVal good) (hsz:P.cellsOf q=eVal.sz) (h1:P.cellsOf er=1)
    (hT:DataW.Trod enc P w base sp hd t v d ps):∃ va ua vb ub vk la ra lb rb keys,v=.agg #[va,ua,vb,ub,vk]∧(Rd w eC va la∧RdT w eVal ua ra)∧(Rd w eC vb lb∧RdT w eVal ub rb)∧Rd w eS vk keys∧(∀ r∈ra,∀ v∈r,good v)∧∀ r∈rb,∀ v∈r,good v:=by
  obtain ⟨fuel,hx⟩:=hT
  obtain ⟨hlen,⟨f0,y0,k0⟩,⟨f1,y1,k1⟩,f3,y3,k3⟩:=case_trod h3 hx
  obtain ⟨va,ua,la,ra,e0,a1,a2,_,a3⟩:=tab_trod h hl hC hcz hr hq hE hsz h1 k0
  obtain ⟨vb,ub,lb,rb,e1,b1,b2,_,b3⟩:=tab_trod h hl hC hcz hr hq hE hsz h1 k1
  obtain ⟨vk,keys,e3,s1,_,_⟩:=cells_rd hs hS hsc (by decide) k3
  generalize hcs:v.cells.toList=cs at hlen e0 e1 e3
  match cs,hlen with
  | [x0,x1,x2,x3,x4],_ =>
    simp at e0 e1 e3
    obtain ⟨rfl,rfl⟩:=e0
    obtain ⟨rfl,rfl⟩:=e1
    subst e3
    exact ⟨_,_,_,_,_,la,ra,lb,rb,keys,agg_cs hcs (by simp),⟨a1,a2⟩,⟨b1,b2⟩,s1,a3,b3⟩
end
end Go.Proofs.YtjajihaeoolefaaGreatDoor
