/- Texts of the proof, joined. -/
import Derived.Test.YtllanbmpacgigaaGreatDoorDP10
import Derived.Test.YtllanbmpacgigaaGreatDoorDQ06
import Derived.Test.YtllanbmpacgigaaGreatDoorDW06
namespace Go.Proofs.YtllanbmpacgigaaGreatDoor
set_option linter.unusedSimpArgs false
set_option linter.unusedVariables false
def goR (d:Dl) (l:Lm):Int→Mk→Str→Option (Int×Mk)
  | st,m,[]=>some (st,m)
  | st,m,b :: t=>match stepR d l st m b with
    | .ok (st',m',none)=>goR d l st' m' t
    | _=>none
section
variable {d:Dl} {l:Lm} {st:Int} {m:Mk}
theorem goR_c {b:UInt8} {t:Str} {st':Int} {m':Mk} (h:stepR d l st m b=.ok (st',m',none)):goR d l st m (b :: t)=goR d l st' m' t:=by rw [goR,h]
theorem goR_app:∀ (a b:Str) (st:Int) (m:Mk) {st':Int} {m':Mk},goR d l st m a=some (st',m')→goR d l st m (a++b)=goR d l st' m' b
  | [],b,st,m,st',m',h=>by simp only [goR,Option.some.injEq,Prod.mk.injEq] at h;obtain ⟨rfl,rfl⟩:=h;rfl
  | c :: a,b,st,m,st',m',h=>by
    rw [goR] at h
    rw [List.cons_append,goR]
    split at h
    · exact goR_app a b _ _ h
    · simp at h
def bareB (d:Dl) (f:Str):Prop:=∀ c∈f,¬ (c.toNat:Int)=d.q∧¬ (c.toNat:Int)=d.dl∧¬ (c.toNat:Int)=13∧¬ (c.toNat:Int)=10
theorem bare_run:∀ (f:Str) (st:Int) (m:Mk),st=1∨st=2→bareB d f→(m.fl.length+f.length:Int) < l.F→∃ st',(st'=1∨st'=2)∧goR d l st m f=some (st',{ m with fl:=m.fl++f })
  | [],st,m,hs,_,_=>⟨st,hs,by simp [goR]⟩
  | c :: f,st,m,hs,hb,hF=>by
    obtain ⟨h1,h2,h3,h4⟩:=hb c (by simp)
    simp only [List.length_cons] at hF
    obtain ⟨st',hs',h⟩:=bare_run f 2 { m with fl:=m.fl++[c] } (.inr rfl) (fun x hx=>hb x (by simp [hx])) (by simp;omega)
    refine ⟨st',hs',?_⟩
    rw [goR_c (st':=2) (m':={ m with fl:=m.fl++[c] }) (by rw [s12x hs h1 h2 h3 h4,if_neg (by omega)]),h]
    simp
theorem quo_run (hr:Rt d) {q:UInt8} (hq:(q.toNat:Int)=d.q):∀ (f:Str) (m:Mk),(m.fl.length+f.length:Int) < l.F→goR d l 3 m (f.flatMap (quoB q)++[q])=some (4,{ m with fl:=m.fl++f })
  | [],m,_=>by
    rw [List.flatMap_nil,List.nil_append,goR_c (s3q hq)];simp [goR]
  | c :: f,m,hF=>by
    simp only [List.length_cons] at hF
    have ih:=quo_run hr hq f { m with fl:=m.fl++[c] } (by simp;omega)
    rw [List.flatMap_cons,List.append_assoc]
    by_cases hc:c=q
    · subst hc
      simp only [quoB,if_true,List.cons_append,List.nil_append]
      rw [goR_c (s3q hq),goR_c (st':=3) (m':={ m with fl:=m.fl++[c] }) (by rw [s4q hr hq,if_neg (by omega)]),ih]
      simp
    · have hcq:¬ (c.toNat:Int)=d.q:=fun e=>hc (UInt8.toNat_inj.1 (by omega))
      simp only [quoB,if_neg hc,List.cons_append,List.nil_append]
      rw [goR_c (st':=3) (m':={ m with fl:=m.fl++[c] }) (by rw [s3x hcq,if_neg (by omega)]),ih]
      simp
theorem u8_lit10 {c k:UInt8} {n:Int} (hk:(k.toNat:Int)=n) (h:(c.toNat:Int)=n):c=k:=UInt8.toNat_inj.1 (by omega)
theorem hasB_no {f:Str} {c:UInt8} (h:hasB f c=false):∀ x∈f,x≠c:=by
  unfold hasB at h
  intro x hx e
  have:=List.any_eq_false.1 h x hx
  simp [e] at this
theorem wr_run (hr:Rt d) (hd:byD d) {f:Str} {a b:Bool} (m:Mk) (hm:m.fl=[]) (hF:(f.length:Int) < l.F):∃ st',aft st'∧goR d l 1 m (wrM d f a b)=some (st',{ m with fl:=f }):=by
  have hq:((bQ d).toNat:Int)=d.q:=byte_of ⟨hd.2.2.1,hd.2.2.2⟩
  have hdl:((bD d).toNat:Int)=d.dl:=byte_of ⟨hd.1,hd.2.1⟩
  unfold wrM
  split
  · refine ⟨4,by unfold aft;omega,?_⟩
    unfold quoM
    rw [List.cons_append,goR_c (s1q hr hq),quo_run hr hq f m (by rw [hm];simpa using hF),hm]
    rfl
  · rename_i hw
    have h0:whyM d f a b=0:=by have:=whyM_pos d f a b;omega
    unfold whyM at h0
    split at h0
    · simp at h0
    · rename_i n1
      split at h0
      · simp at h0
      · rename_i n2
        split at h0
        · simp at h0
        · rename_i n3
          have n1:hasB f (bD d)=false:=by simpa using n1
          have n2:hasB f (bQ d)=false:=by simpa using n2
          have n3:hasB f 13=false∧hasB f 10=false:=by simpa [not_or] using n3
          have hb:bareB d f:=fun c hc=>by
            refine ⟨fun e=>hasB_no n2 c hc (UInt8.toNat_inj.1 (by omega)),fun e=>hasB_no n1 c hc (UInt8.toNat_inj.1 (by omega)),fun e=>hasB_no n3.1 c hc (u8_lit10 (by decide) e),fun e=>hasB_no n3.2 c hc (u8_lit10 (by decide) e)⟩
          obtain ⟨st',hs',h⟩:=bare_run f 1 m (.inl rfl) hb (by rw [hm];simpa using hF)
          refine ⟨st',by unfold aft;omega,?_⟩
          rw [h,hm];rfl
def putAll (m:Mk):List Str→Mk
  | []=>m
  | f :: r=>putAll { m.put with fl:=f } r
theorem putAll_rc:∀ (r:List Str) (m:Mk),(putAll m r).rc++[(putAll m r).fl]=m.rc++[m.fl]++r∧(putAll m r).bg=m.bg∧(putAll m r).ct=m.ct∧(putAll m r).wd=m.wd
  | [],m=>by simp [putAll]
  | f :: r,m=>by
    have:=putAll_rc r { m.put with fl:=f }
    simp only [putAll]
    simp only [Mk.put] at this ⊢
    refine ⟨?_,this.2⟩
    rw [this.1];simp
theorem line_tail (hr:Rt d) (hd:byD d) (hU:l.U=false) (n:Nat) (first:Bool):∀ (r:List Str) (i:Nat) (st:Int) (m:Mk),0 < i→aft st→(∀ f∈r,(f.length:Int) < l.F)→(m.rc.length+1+r.length:Int)≤l.N→∃ st',aft st'∧goR d l st m (lineF d n first i r)=some (st',putAll m r)
  | [],i,st,m,_,hs,_,_=>⟨st,hs,rfl⟩
  | f :: r,i,st,m,hi,hs,hF,hN=>by
    have hdl:((bD d).toNat:Int)=d.dl:=byte_of ⟨hd.1,hd.2.1⟩
    simp only [List.length_cons] at hN
    have hst:m.strict l=false:=by simp [Mk.strict,hU]
    obtain ⟨s1,hs1,h1⟩:=wr_run hr hd (f:=f) (a:=decide (n=1)) (b:=first && decide (i=0)) m.put rfl (hF f (by simp))
    obtain ⟨s2,hs2,h2⟩:=line_tail hr hd hU n first r (i+1) s1 { m.put with fl:=f } (by omega) hs1 (fun x hx=>hF x (by simp [hx])) (by simp [Mk.put];omega)
    refine ⟨s2,hs2,?_⟩
    simp only [lineF,pieceM,if_pos hi,List.cons_append,List.nil_append]
    rw [goR_c (st':=1) (m':=m.put) (by rw [a_d hr hs hdl,if_neg (by push_cast;omega),if_neg (by rw [hst];simp)]),goR_app _ _ _ _ h1,h2]
    rfl
theorem line_run (hr:Rt d) (hd:byD d) (hU:l.U=false) (first:Bool) (r:List Str) (m:Mk) (hr0:r≠[]) (hm:m.fl=[]) (hmr:m.rc=[]) (hF:∀ f∈r,(f.length:Int) < l.F) (hN:(r.length:Int)≤l.N) (hR:(m.bg:Int) < l.R) :
    ∃ st' m',aft st'∧goR d l 0 m (lineF d r.length first 0 r)=some (st',m')∧m'.rc++[m'.fl]=r∧m'.bg=m.bg+1∧m'.ct=m.ct∧m'.wd=m.wd:=by
  match r,hr0 with
  | f :: r, _ =>
    have hq:((bQ d).toNat:Int)=d.q:=byte_of ⟨hd.2.2.1,hd.2.2.2⟩
    have hdl:((bD d).toNat:Int)=d.dl:=byte_of ⟨hd.1,hd.2.1⟩
    simp only [List.length_cons] at hN
    obtain ⟨s1,hs1,h1⟩:=wr_run hr hd (f:=f) (a:=decide ((f :: r).length=1)) (b:=first && decide (0=0)) { m with bg:=m.bg+1 } hm (hF f (by simp))
    obtain ⟨s2,hs2,h2⟩:=line_tail hr hd hU (f :: r).length first r 1 s1 { m with bg:=m.bg+1,fl:=f } (by omega) hs1 (fun x hx=>hF x (by simp [hx])) (by simp [hmr];omega)
    have hp:=putAll_rc r { m with bg:=m.bg+1,fl:=f }
    refine ⟨s2,_,hs2,?_,by rw [hp.1];simp [hmr],hp.2.1,hp.2.2.1,hp.2.2.2⟩
    have hL:lineF d (f :: r).length first 0 (f :: r)=wrM d f (decide ((f :: r).length=1)) (first && decide (0=0))++lineF d (f :: r).length first 1 r:=by
      simp only [lineF,pieceM,Nat.lt_irrefl,if_false,List.nil_append,Nat.zero_add]
    have hrun:goR d l 1 { m with bg:=m.bg+1 } (lineF d (f :: r).length first 0 (f :: r))=some (s2,putAll { m with bg:=m.bg+1,fl:=f } r):=by
      rw [hL,goR_app _ _ _ _ h1,h2]
    have hfb : ∃ c t,lineF d (f :: r).length first 0 (f :: r)=c :: t∧¬ (c.toNat:Int)=13∧¬ (c.toNat:Int)=10:=by
      rw [hL]
      unfold wrM
      split
      · exact ⟨bQ d,List.flatMap (quoB (bQ d)) f++[bQ d]++lineF d (f :: r).length first 1 r,by simp only [quoM,List.cons_append],by rw [hq];exact hr.q13,by rw [hq];exact hr.q10⟩
      · rename_i hw
        have h0:whyM d f (decide ((f :: r).length=1)) (first && decide (0=0))=0:=by have:=whyM_pos d f (decide ((f :: r).length=1)) (first && decide (0=0));omega
        match f,r with
        | c :: f,r =>
          have hne:hasB (c :: f) 13=false∧hasB (c :: f) 10=false:=by
            unfold whyM at h0
            split at h0
            · simp at h0
            · split at h0
              · simp at h0
              · split at h0
                · simp at h0
                · rename_i n3;simpa [not_or] using n3
          exact ⟨c,_,rfl,fun e=>hasB_no hne.1 c (by simp) (u8_lit10 (by decide) e),fun e=>hasB_no hne.2 c (by simp) (u8_lit10 (by decide) e)⟩
        | [],[]=>simp [whyM,hasB] at h0
        | [],g :: r=>exact ⟨bD d,_,by simp only [lineF,pieceM,Nat.lt_irrefl,if_false,List.nil_append,Nat.zero_add,Nat.lt_add_one,if_true,List.cons_append];rfl,by rw [hdl];exact hr.d13,by rw [hdl];exact hr.d10⟩
    obtain ⟨c,t,hct,c1,c2⟩:=hfb
    rw [hct] at hrun ⊢
    rw [goR] at hrun ⊢
    rw [s0b c1 c2,if_neg (by omega)]
    exact hrun
end
end Go.Proofs.YtllanbmpacgigaaGreatDoor
