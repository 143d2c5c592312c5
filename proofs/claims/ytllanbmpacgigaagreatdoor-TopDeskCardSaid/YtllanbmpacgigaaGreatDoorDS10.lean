/- Texts of the proof, joined. -/
import Derived.Test.YtllanbmpacgigaaGreatDoorDR10
import Derived.Test.YtllanbmpacgigaaGreatDoorDB06
namespace Go.Proofs.YtllanbmpacgigaaGreatDoor
set_option linter.unusedSimpArgs false
set_option linter.unusedVariables false
def Full (q:Int) (t:Str) (q':Int):Prop:=runM q t=(q',t.length)
theorem Full.nil {q:Int}:Full q [] q:=rfl
theorem Full.cons {q s q':Int} {b:UInt8} {t:Str} (h:stepM q b.toNat=(s,true)) (hf:Full s t q'):Full q (b :: t) q':=by
  unfold Full at *
  rw [run_y h,hf];rfl
theorem Full.un {q q':Int} {b:UInt8} {t:Str} (h:Full q (b :: t) q'):∃ s,stepM q b.toNat=(s,true)∧Full s t q':=by
  unfold Full at *
  cases hs:stepM q b.toNat with
  | mk s ok =>
    cases ok
    · rw [run_n hs] at h
      simp at h
    · rw [run_y hs] at h
      injection h with h1 h2
      refine ⟨s,rfl,?_⟩
      rw [←h1]
      simp only [List.length_cons] at h2
      exact Prod.ext rfl (by simp only;omega)
theorem Full.app {q q1 q2:Int} {b:Str}:∀ {a:Str},Full q a q1→Full q1 b q2→Full q (a++b) q2:=by
  intro a
  induction a generalizing q with
  | nil => intro h1 h2;have:q1=q:=by unfold Full at h1;rw [run_nil] at h1;injection h1 with h _;exact h.symm
           subst this;exact h2
  | cons c a ih =>
    intro h1 h2
    obtain ⟨s,e,h3⟩:=h1.un
    exact Full.cons e (ih h3 h2)
theorem ascii7 {q:Int} {b:UInt8} (hb:(b.toNat:Int) < 128) (h:(stepM q b.toNat).2=true):q=0∧stepM q b.toNat=(0,true):=by
  have h0:(0:Int)≤b.toNat:=by omega
  have hf:∀ lo hi n:Int,128≤lo→(followM (b.toNat:Int) lo hi n).2=false:=by
    intro lo hi n hlo
    unfold followM
    split<;>first|rfl|(exfalso;omega)
  unfold stepM at h ⊢
  by_cases hq:q=0
  · subst hq
    refine ⟨rfl,?_⟩
    rw [if_pos rfl] at h ⊢
    unfold beginM
    rw [if_pos (by omega)]
  · rw [if_neg hq] at h
    exfalso
    repeat' split at h
    all_goals first
    | (rw [hf _ _ _ (by decide)] at h;simp at h)
    | simp at h
theorem ascii0 {b:UInt8} (hb:(b.toNat:Int) < 128):stepM 0 b.toNat=(0,true):=by
  unfold stepM
  rw [if_pos rfl]
  unfold beginM
  rw [if_pos (by omega)]
theorem valid_full {f:Str} (h:validM f=true):Full 0 f 0:=by
  obtain ⟨h1,h2⟩:=valid_run h
  exact Prod.ext h2 h1
theorem quo_full {c:UInt8} (hc:(c.toNat:Int) < 128):∀ (f:Str) {q q':Int},Full q f q'→Full q (f.flatMap (quoB c)) q'
  | [],_,_,h=>h
  | x :: f,q,q',h=>by
    obtain ⟨s,e,h2⟩:=h.un
    rw [List.flatMap_cons]
    by_cases hx:x=c
    · subst hx
      obtain ⟨rfl,e2⟩:=ascii7 hc (by rw [e])
      have:s=0:=by rw [e] at e2;injection e2
      subst this
      simp only [quoB,if_true,List.cons_append,List.nil_append]
      exact Full.cons e2 (Full.cons e2 (quo_full hc f h2))
    · simp only [quoB,if_neg hx,List.cons_append,List.nil_append]
      exact Full.cons e (quo_full hc f h2)
section
variable {d:Dl}
theorem wr_full (hq:((bQ d).toNat:Int) < 128) {f:Str} {a b:Bool} (h:validM f=true):Full 0 (wrM d f a b) 0:=by
  have hf:=valid_full h
  unfold wrM
  split
  · unfold quoM
    rw [List.cons_append]
    exact Full.cons (ascii0 hq) ((quo_full hq f hf).app (Full.cons (ascii0 hq) Full.nil))
  · exact hf
theorem line_full (hq:((bQ d).toNat:Int) < 128) (hdl:((bD d).toNat:Int) < 128) (n:Nat) (first:Bool):∀ (r:List Str) (i:Nat),r.all validM=true→Full 0 (lineF d n first i r) 0
  | [],_,_=>Full.nil
  | f :: r,i,h=>by
    simp only [List.all_cons,Bool.and_eq_true] at h
    simp only [lineF,pieceM]
    refine Full.app ?_ (line_full hq hdl n first r (i+1) h.2)
    split
    · exact Full.app (Full.cons (ascii0 hdl) Full.nil) (wr_full hq h.1)
    · exact wr_full hq h.1
theorem go_wrun {l:Lm} {b:Str}:∀ (a:Str) {q q' st st':Int} {m m':Mk} (p:Nat),goR d l st m a=some (st',m')→Full q a q'→wrun d l q st m p (a++b)=wrun d l q' st' m' (p+a.length) b
  | [],q,q',st,st',m,m',p,h,hf=>by
    simp only [goR,Option.some.injEq,Prod.mk.injEq] at h
    obtain ⟨rfl,rfl⟩:=h
    have:q'=q:=by unfold Full at hf;rw [run_nil] at hf;injection hf with h _;exact h.symm
    subst this;rfl
  | c :: a,q,q',st,st',m,m',p,h,hf=>by
    obtain ⟨s,e,hf2⟩:=hf.un
    rw [goR] at h
    split at h
    · rename_i s1 m1 hs
      rw [List.cons_append,wrun_cons]
      have hw:stepW d l q st m c=.ok (s,s1,m1,none):=by unfold stepW;rw [e,if_neg (by simp),hs]
      rw [hw]
      simp only [oneR,pre_nil]
      rw [go_wrun a (p+1) h hf2]
      congr 1
      simp only [List.length_cons];omega
    · simp at h
end
end Go.Proofs.YtllanbmpacgigaaGreatDoor
namespace Go.Proofs.YtllanbmpacgigaaGreatDoor
set_option linter.unusedSimpArgs false
set_option linter.unusedVariables false
section
variable {d:Dl}
theorem lf_or {b:UInt8} (h:(b.toNat:Int)=13∨(b.toNat:Int)=10):(b.toNat:Int) < 128:=by omega
structure SpanAt (d:Dl) (q st:Int) (m:Mk) (p:Nat) (t:Str) (SP:List (Nat×Nat)) (i:Nat) (a b:Str) (m2:Mk) (fr2 to2:Nat):Prop where
  cut:t=a++b
  sp:spW d wideL 0 0 m2 fr2 to2 (p+a.length) b=SP.drop i
  rc:m2.rc=[]
  fl:m2.fl=[]
  bg:∃ c b',b=c :: b'∧(scM d 0 c).1.b=true
  lf:(a=[]∧st=0)∨∃ a' z,a=a'++[z]∧(z.toNat:Int)=10
  run:∀ b2,wrun d wideL q st m p (a++b2)=(wrun d wideL 0 0 m2 (p+a.length) b2).pre ((wrun d wideL q st m p t).rs.take i)
theorem SpanAt.cons {q st:Int} {m:Mk} {p:Nat} {b:UInt8} {t:Str} {x:Int×Int×Mk×Option (List Str)} {SP:List (Nat×Nat)} {i:Nat} {a c:Str} {m2:Mk} {fr2 to2:Nat} (he:stepW d wideL q st m b=.ok x)
    (h:SpanAt d x.1 x.2.1 x.2.2.1 (p+1) t SP i a c m2 fr2 to2) (hz:a=[]→x.2.1=0→(b.toNat:Int)=10) {SP':List (Nat×Nat)} {n:Nat} (hn:n=(oneR x.2.2.2 p).length) (hSP:SP'.drop (n+i)=SP.drop i) :
    SpanAt d q st m p (b :: t) SP' (n+i) (b :: a) c m2 fr2 to2:=by
  obtain ⟨h1,h2,h3,h4,h5,h6,h7⟩:=h
  have e1:p+(b :: a).length=p+1+a.length:=by simp only [List.length_cons];omega
  refine ⟨by rw [h1];rfl,by rw [e1,h2,hSP],h3,h4,h5,?_,fun b2=>?_⟩
  · rcases h6 with ⟨ha,hst⟩|⟨a',z,ha,hz'⟩
    · subst ha;exact .inr ⟨[],b,rfl,hz rfl hst⟩
    · exact .inr ⟨b :: a',z,by rw [ha];rfl,hz'⟩
  · rw [e1,List.cons_append,wrun_cons,he,wrun_cons,he]
    simp only
    rw [h7 b2,pre_pre]
    congr 1
    simp only [Rs.pre]
    rw [hn,List.take_length_add_append]
end
end Go.Proofs.YtllanbmpacgigaaGreatDoor
namespace Go.Proofs.YtllanbmpacgigaaGreatDoor
set_option linter.unusedSimpArgs false
set_option linter.unusedVariables false
end Go.Proofs.YtllanbmpacgigaaGreatDoor
namespace Go.Proofs.YtllanbmpacgigaaGreatDoor
set_option linter.unusedSimpArgs false
set_option linter.unusedVariables false
section
variable {d:Dl}
theorem right_ascii (hd:byD d) (h:rightD d=true):((bQ d).toNat:Int) < 128∧((bD d).toNat:Int) < 128:=by
  have hq:((bQ d).toNat:Int)=d.q:=byte_of ⟨hd.2.2.1,hd.2.2.2⟩
  have hdl:((bD d).toNat:Int)=d.dl:=byte_of ⟨hd.1,hd.2.1⟩
  unfold rightD mayB at h
  simp only [Bool.and_eq_true,decide_eq_true_eq,Bool.not_eq_true',decide_eq_false_iff_not] at h
  omega
theorem may_parts {r:List Str} (h:mayR r=0):r≠[]∧r.all validM=true:=by
  unfold mayR at h
  split at h
  · simp at h
  · rename_i hr
    split at h
    · exact ⟨hr,by assumption⟩
    · simp at h
theorem line_nobom (hd:byD d) (hr:rightD d=true) {r:List Str} (hm:mayR r=0) {e:Str} (he:e=[]∨∃ z e',e=z :: e'∧((z.toNat:Int)=13∨(z.toNat:Int)=10)):¬ (lineF d r.length true 0 r++e).take 3=[239,187,191]:=by
  obtain ⟨aq,adl⟩:=right_ascii hd hr
  obtain ⟨hr0,_⟩:=may_parts hm
  match r,hr0 with
  | f :: r,_ =>
    intro h
    have hL:lineF d (f :: r).length true 0 (f :: r)=wrM d f (decide ((f :: r).length=1)) true++lineF d (f :: r).length true 1 r:=by
      simp only [lineF,pieceM,Nat.lt_irrefl,if_false,List.nil_append,Nat.zero_add,Bool.true_and,decide_true]
    rw [hL,List.append_assoc] at h
    have hrest:∀ c g,lineF d (f :: r).length true 1 r++e=c :: g→(c.toNat:Int) < 128:=by
      intro c g hcg
      match r with
      | [] =>
        simp only [lineF,List.nil_append] at hcg
        rcases he with rfl|⟨z,e',rfl,hz⟩
        · simp at hcg
        · have h1:z=c:=(List.cons.inj hcg).1
          have h2:=lf_or hz
          rw [h1] at h2;exact h2
      | x :: r =>
        simp only [lineF,pieceM,Nat.lt_add_one,if_true,List.cons_append,List.nil_append] at hcg
        have h1:bD d=c:=(List.cons.inj hcg).1
        have h2:=adl
        rw [h1] at h2;exact h2
    generalize lineF d (f :: r).length true 1 r++e=G at *
    unfold wrM at h
    split at h
    · simp only [quoM,List.cons_append,List.take_succ_cons] at h
      injection h with h1 _
      rw [h1] at aq
      exact absurd aq (by decide)
    · rename_i hw
      have h0:¬ (f.take 3=[239,187,191]):=by
        intro hf
        apply hw
        unfold whyM
        repeat' split
        all_goals first|decide|(exfalso;rename_i h5;exact h5 ⟨rfl,hf⟩)
      match f with
      | [] =>
        match G with
        | []=>simp at h
        | c :: g =>
          simp only [List.nil_append,List.take_succ_cons] at h
          injection h with h1 _
          have:=hrest c g rfl
          rw [h1] at this;exact absurd this (by decide)
      | [x] =>
        match G with
        | []=>simp at h
        | c :: g =>
          simp only [List.cons_append,List.nil_append,List.take_succ_cons] at h
          injection h with _ h1
          injection h1 with h1 _
          have:=hrest c g rfl
          rw [h1] at this;exact absurd this (by decide)
      | [x,y] =>
        match G with
        | []=>simp at h
        | c :: g =>
          simp only [List.cons_append,List.nil_append,List.take_succ_cons] at h
          injection h with _ h1
          injection h1 with _ h1
          injection h1 with h1 _
          have:=hrest c g rfl
          rw [h1] at this;exact absurd this (by decide)
      | x :: y :: z :: f =>
        simp only [List.cons_append,List.take_succ_cons,List.take_zero] at h h0
        exact h0 h
end
end Go.Proofs.YtllanbmpacgigaaGreatDoor
namespace Go.Proofs.YtllanbmpacgigaaGreatDoor
set_option linter.unusedSimpArgs false
set_option linter.unusedVariables false
open Go.RowKit
def txtF (d:Dl) (first:Bool):List (List Str)→Str
  | []=>[]
  | r :: t=>lineM d r first++txtF d false t
theorem txtF_snoc (d:Dl):∀ (t:List (List Str)) (first:Bool) (r:List Str),txtF d first (t++[r])=txtF d first t++lineM d r (first && decide (t.length=0))
  | [],first,r=>by simp [txtF]
  | x :: t,first,r=>by
    simp only [List.cons_append,txtF,txtF_snoc d t false r,List.append_assoc,Bool.false_and]
    congr 2
    simp
section
variable {d:Dl} {l:Lm}
theorem eol_run (hr:Rt d) (hU:l.U=false) {st:Int} {m:Mk} (p:Nat) (hs:aft st) (rest:Str):∃ p1 p2,wrun d l 0 st m p (endM d++rest)=(wrun d l 0 0 m.put.out p1 rest).pre [(m.rc++[m.fl],p2)]:=by
  have hst:m.strict l=false:=by simp [Mk.strict,hU]
  have hw:∀ {st:Int} {m:Mk} {z:UInt8},(z.toNat:Int)=13∨(z.toNat:Int)=10→stepW d l 0 st m z=match stepR d l st m z with|.error k=>.error k|.ok x=>.ok (0,x):=fun {st m z} hz=>by
    have hq:=ascii0 (lf_or hz)
    unfold stepW;rw [hq,if_neg (by simp)];rfl
  unfold endM
  by_cases he:d.e=2
  · rw [if_pos he]
    refine ⟨p+1+1,p+1,?_⟩
    rw [List.cons_append,wrun_cons,hw (.inl rfl),a_13 hr hs rfl,if_neg (by omega),if_neg (by rw [hst];simp)]
    simp only [oneR,pre_nil]
    rw [List.cons_append,wrun_cons,hw (.inr rfl),s5_10 rfl]
    rfl
  · rw [if_neg he]
    refine ⟨p+1,p,?_⟩
    rw [List.cons_append,wrun_cons,hw (.inr rfl),a_10 hr hs rfl,if_neg he,if_neg (by rw [hst];simp)]
    rfl
theorem txt_run (hr:Rt d) (hd:byD d) (hrt:rightD d=true) (hU:l.U=false) (hF:1000 < l.F) (hN:1000 < l.N):∀ (t:List (List Str)) (first:Bool) (m:Mk) (p:Nat),m.fl=[]→m.rc=[]→((m.bg:Int)+t.length≤l.R)→(∀ r∈t,mayR r=0∧r.length≤1000∧∀ f∈r,f.length≤1000) →
    (wrun d l 0 0 m p (txtF d first t)).rs.map Prod.fst=t∧(wrun d l 0 0 m p (txtF d first t)).k=0
  | [],first,m,p,_,_,_,_=>by
    rw [txtF,wrun_nil];unfold endW;rw [if_neg (by decide),s0_e];exact ⟨rfl,rfl⟩
  | r :: t,first,m,p,h1,h2,h3,h4=>by
    obtain ⟨hm,hl,hf⟩:=h4 r (by simp)
    obtain ⟨hr0,hv⟩:=may_parts hm
    obtain ⟨aq,adl⟩:=right_ascii hd hrt
    simp only [List.length_cons] at h3
    obtain ⟨st',m',hs,hg,hrec,hbg,hct,hwd⟩:=line_run (l:=l) hr hd hU first r m hr0 h1 h2 (fun f hf'=>by have:=hf f hf';omega) (by omega) (by omega)
    obtain ⟨p1,p2,e⟩:=eol_run (l:=l) hr hU (m:=m') (p+(lineF d r.length first 0 r).length) hs (txtF d false t)
    have ih:=txt_run hr hd hrt hU hF hN t false m'.put.out p1 rfl rfl (by show ((m'.bg:Int)+_≤_);omega) (fun x hx=>h4 x (by simp [hx]))
    rw [txtF,lineM,List.append_assoc,go_wrun _ p hg (line_full aq adl r.length first r 0 hv),e]
    refine ⟨?_,ih.2⟩
    simp only [Rs.pre,List.map_append,List.map_cons,List.map_nil,hrec,ih.1,List.singleton_append]
end
theorem end_cons (d:Dl) (x:Str):∃ z e',endM d++x=z :: e'∧((z.toNat:Int)=13∨(z.toNat:Int)=10):=by
  unfold endM
  split
  · exact ⟨13,[10]++x,rfl,.inl rfl⟩
  · exact ⟨10,x,rfl,.inr rfl⟩
theorem txt_par {d:Dl} (hd:byD d) (hrt:rightD d=true) (t:List (List Str)) (h0:t.length≤1000) (h:∀ r∈t,mayR r=0∧r.length≤1000∧∀ f∈r,f.length≤1000):(parM d wideL (txtF d true t)).rs.map Prod.fst=t∧(parM d wideL (txtF d true t)).k=0:=by
  have hb:stripM (txtF d true t)=txtF d true t:=by
    unfold stripM
    rw [if_neg]
    match t,h with
    | [],_=>simp [txtF]
    | r :: t,h =>
      have:=line_nobom hd hrt (h r (by simp)).1 (e:=endM d++txtF d false t) (.inr (end_cons d _))
      rw [txtF,lineM,List.append_assoc];exact this
  have:=txt_run (l:=wideL) (right_rt hrt) hd hrt rfl (by decide) (by decide) t true {} ((txtF d true t).length - (stripM (txtF d true t)).length) rfl rfl (by show ((0:Nat):Int)+_≤2147483648;omega) h
  unfold parM
  rw [hb] at this ⊢
  exact this
theorem end_len (d:Dl):(endM d).length≤2:=by unfold endM;split<;>simp
theorem txt_len (d:Dl) (A N:Nat):∀ (t:List (List Str)) (first:Bool),(∀ r∈t,r.length≤A∧∀ f∈r,f.length≤N)→(txtF d first t).length≤t.length * (A * (2 * N+3)+2)
  | [],_,_=>by simp [txtF]
  | r :: t,first,h=>by
    have ih:=txt_len d A N t false fun x hx=>h x (by simp [hx])
    obtain ⟨h1,h2⟩:=h r (by simp)
    have h3:=lineF_len d r.length first N r 0 h2
    have h4:=end_len d
    have h5:r.length * (2 * N+3)≤A * (2 * N+3):=Nat.mul_le_mul_right _ h1
    simp only [txtF,lineM,List.length_append,List.length_cons,Nat.add_mul]
    generalize A * (2 * N+3)=z at *
    generalize r.length * (2 * N+3)=y at *
    omega
end Go.Proofs.YtllanbmpacgigaaGreatDoor
namespace Go.Proofs.YtllanbmpacgigaaGreatDoor
set_option linter.unusedSimpArgs false
set_option linter.unusedVariables false
open Go.RowKit
def wtS (r:List Str):Nat:=(r.map fun f=>f.length+1).sum
def totW (t:List (List Str)):Nat:=(t.map wtS).sum
theorem wtS_app (a b:List Str):wtS (a++b)=wtS a+wtS b:=by simp [wtS]
theorem wtS_one (x:Str):wtS [x]=x.length+1:=by simp [wtS]
def WBm (m:Mk) (n:Nat):Prop:=m.fl.length+wtS m.rc≤n
theorem WBm.up {m:Mk} {n n':Nat} (h:WBm m n) (hn:n≤n'):WBm m n':=Nat.le_trans h hn
theorem WBm.put {m:Mk} {n:Nat} (h:WBm m n):WBm m.put (n+1):=by
  unfold WBm at *
  simp only [Mk.put,wtS_app,wtS_one,List.length_nil]
  omega
theorem gather_wb {l:Lm} {m m':Mk} {e:Ev} {n:Nat} (h:gather l m e=.ok m') (hb:WBm m n):WBm m' (n+3):=by
  unfold gather at h
  split at h
  · simp at h
  · rename_i m1 h1
    have b1:WBm m1 n:=by
      unfold gBegin at h1
      split at h1
      · split at h1
        · simp at h1
        · injection h1 with h1;subst h1;exact hb
      · injection h1 with h1;subst h1;exact hb
    split at h
    · simp at h
    · rename_i m2 h2
      have b2:WBm m2 (n+1):=by
        unfold gAdd at h2
        split at h2
        · split at h2
          · simp at h2
          · injection h2 with h2;subst h2
            unfold WBm at *
            simp only [List.length_append,List.length_singleton]
            omega
        · injection h2 with h2;subst h2;exact b1.up (Nat.le_succ _)
      split at h
      · simp at h
      · rename_i m3 h3
        have b3:WBm m3 (n+2):=by
          unfold gField at h3
          split at h3
          · split at h3
            · simp at h3
            · split at h3
              · simp at h3
              · injection h3 with h3;subst h3;exact b2.put
          · injection h3 with h3;subst h3;exact b2.up (by omega)
        unfold gLine at h
        split at h
        · split at h
          · simp at h
          · injection h with h;subst h;exact b3.put
        · injection h with h;subst h;exact b3.up (by omega)
theorem take_wb {l:Lm} {m:Mk} {e:Ev} {n:Nat} {x:Mk×Option (List Str)} (h:takeM l m e=.ok x) (hb:WBm m n):wtS (x.2.getD [])+(x.1.fl.length+wtS x.1.rc)≤n+3:=by
  unfold takeM at h
  split at h
  · simp at h
  · rename_i m1 h1
    have b1:=gather_wb h1 hb
    unfold WBm at b1
    split at h
    · injection h with h;subst h
      simp only [Mk.out,Option.getD_some,wtS,List.map_nil,List.sum_nil] at *
      omega
    · injection h with h;subst h
      simp only [Option.getD_none,wtS,List.map_nil,List.sum_nil] at *
      omega
theorem wrun_wt (d:Dl) (l:Lm):∀ (t:Str) (q st:Int) (m:Mk) (p n:Nat),WBm m n→totW ((wrun d l q st m p t).rs.map Prod.fst)≤n+3 * (t.length+1):=by
  intro t
  induction t with
  | nil =>
    intro q st m p n hb
    rw [wrun_nil]
    cases h:endW l q st m with
    | error k=>simp [totW]
    | ok r =>
      cases r with
      | none=>simp [oneR,totW]
      | some r =>
        simp only [oneR,List.map_cons,List.map_nil,totW,List.sum_cons,List.sum_nil]
        unfold endW at h
        split at h
        · simp at h
        · unfold endR at h
          split at h
          · simp at h
          · split at h
            · simp at h
            · rename_i z hz
              have:=take_wb hz hb
              have hz2:z.2=some r:=by simpa using h
              rw [hz2,Option.getD_some] at this
              simp only [List.length_nil]
              omega
  | cons b t ih =>
    intro q st m p n hb
    rw [wrun_cons]
    cases h:stepW d l q st m b with
    | error k=>simp [totW]
    | ok y =>
      simp only [Rs.pre,List.map_append,totW,List.sum_append]
      have hy : wtS (y.2.2.2.getD [])+(y.2.2.1.fl.length+wtS y.2.2.1.rc)≤n+3:=by
        unfold stepW at h
        split at h
        · simp at h
        · split at h
          · simp at h
          · rename_i z hz
            injection h with h;subst h
            unfold stepR at hz
            split at hz
            · simp at hz
            · split at hz
              · simp at hz
              · rename_i u hu
                injection hz with hz;subst hz
                exact take_wb hu hb
      have h2:=ih y.1 y.2.1 y.2.2.1 (p+1) (y.2.2.1.fl.length+wtS y.2.2.1.rc) (Nat.le_refl _)
      unfold totW at h2
      have h3:((oneR y.2.2.2 p).map Prod.fst |>.map wtS).sum=wtS (y.2.2.2.getD []):=by
        cases y.2.2.2 with
        | none=>simp [oneR,wtS]
        | some r=>simp [oneR]
      simp only [List.map_append,List.sum_append,List.length_cons] at *
      omega
theorem parM_wt (d:Dl) (l:Lm) (s:Str):totW ((parM d l s).rs.map Prod.fst)≤3 * (s.length+1):=by
  have:=wrun_wt d l (stripM s) 0 0 {} (s.length - (stripM s).length) 0 (by simp [WBm,wtS])
  have hl:=(strip_drop s).2
  unfold parM
  omega
theorem lineF_wt (d:Dl) (n:Nat) (first:Bool):∀ (l:List Str) (i:Nat),(lineF d n first i l).length≤3 * wtS l
  | [],_=>by simp [lineF]
  | x :: l,i=>by
    have h1:=lineF_wt d n first l (i+1)
    have h2:=wrM_len d x (decide (n=1)) (first && decide (i=0))
    have e:wtS (x :: l)=x.length+1+wtS l:=by simp [wtS]
    simp only [lineF,pieceM,List.length_append]
    split<;>simp only [List.length_cons,List.length_nil]<;>omega
theorem lineM_wt (d:Dl) (r:List Str) (first:Bool):(lineM d r first).length≤3 * wtS r+2:=by
  have h1:=lineF_wt d r.length first r 0
  have h2:=end_len d
  unfold lineM
  rw [List.length_append];omega
theorem txtF_wt (d:Dl):∀ (t:List (List Str)) (first:Bool),(txtF d first t).length≤3 * totW t+2 * t.length
  | [],_=>by simp [txtF]
  | r :: t,first=>by
    have ih:=txtF_wt d t false
    have h1:=lineM_wt d r first
    have e:totW (r :: t)=wtS r+totW t:=by simp [totW]
    simp only [txtF,List.length_append,List.length_cons]
    omega
theorem par_txt (d d':Dl) (l:Lm) (s:Str) (first:Bool):(txtF d' first ((parM d l s).rs.map Prod.fst)).length≤11 * (s.length+1):=by
  have h1:=txtF_wt d' ((parM d l s).rs.map Prod.fst) first
  have h2:=parM_wt d l s
  have h3:=parM_len d l s
  rw [List.length_map] at h1
  omega
end Go.Proofs.YtllanbmpacgigaaGreatDoor
namespace Go.Proofs.YtllanbmpacgigaaGreatDoor
set_option linter.unusedSimpArgs false
set_option linter.unusedVariables false
open Go.RowKit
def kB (k:Int):Prop:=0≤k∧k≤12
theorem gather_kb {l:Lm} {m:Mk} {e:Ev} {k:Int} (h:gather l m e=.error k):kB k:=by
  unfold gather at h
  split at h
  · rename_i z h1
    injection h with h;subst h
    unfold gBegin at h1
    split at h1
    · split at h1
      · injection h1 with h1;subst h1;exact ⟨by simp,by simp⟩
      · simp at h1
    · simp at h1
  · split at h
    · rename_i z h1
      injection h with h;subst h
      unfold gAdd at h1
      split at h1
      · split at h1
        · injection h1 with h1;subst h1;exact ⟨by simp,by simp⟩
        · simp at h1
      · simp at h1
    · split at h
      · rename_i z h1
        injection h with h;subst h
        unfold gField at h1
        split at h1
        · split at h1
          · injection h1 with h1;subst h1;exact ⟨by simp,by simp⟩
          · split at h1
            · injection h1 with h1;subst h1;exact ⟨by simp,by simp⟩
            · simp at h1
        · simp at h1
      · unfold gLine at h
        split at h
        · split at h
          · injection h with h;subst h;exact ⟨by simp,by simp⟩
          · simp at h
        · simp at h
theorem take_kb {l:Lm} {m:Mk} {e:Ev} {k:Int} (h:takeM l m e=.error k):kB k:=by
  unfold takeM at h
  split at h
  · rename_i z h1
    injection h with h;subst h
    exact gather_kb h1
  · split at h<;>simp at h
theorem sc_kb (d:Dl) (st:Int) (b:UInt8):kB (scM d st b).2.2:=by
  unfold scM startM inM
  repeat' split
  all_goals exact ⟨by simp,by simp⟩
theorem close_kb (st:Int):kB (closeM st).2:=by
  unfold closeM
  repeat' split
  all_goals exact ⟨by simp,by simp⟩
theorem step_kb {d:Dl} {l:Lm} {st:Int} {m:Mk} {b:UInt8} {k:Int} (h:stepR d l st m b=.error k):kB k:=by
  unfold stepR at h
  split at h
  · injection h with h;subst h;exact sc_kb d st b
  · split at h
    · rename_i z h1
      injection h with h;subst h;exact take_kb h1
    · simp at h
theorem endR_kb {l:Lm} {st:Int} {m:Mk} {k:Int} (h:endR l st m=.error k):kB k:=by
  unfold endR at h
  split at h
  · injection h with h;subst h;exact close_kb st
  · split at h
    · rename_i z h1
      injection h with h;subst h;exact take_kb h1
    · simp at h
theorem wrun_kb (d:Dl) (l:Lm):∀ (t:Str) (q st:Int) (m:Mk) (p:Nat),kB (wrun d l q st m p t).k∧(wrun d l q st m p t).a≤p+t.length:=by
  intro t
  induction t with
  | nil =>
    intro q st m p
    rw [wrun]
    split
    · exact ⟨⟨by simp,by simp⟩,by simp⟩
    · split
      · rename_i k h;exact ⟨endR_kb h,by simp⟩
      · exact ⟨⟨by simp,by simp⟩,by simp⟩
  | cons b t ih =>
    intro q st m p
    rw [wrun]
    split
    · exact ⟨⟨by simp,by simp⟩,by simp⟩
    · split
      · rename_i k h;exact ⟨step_kb h,by simp⟩
      · rename_i x h
        have:=ih (stepM q b.toNat).1 x.1 x.2.1 (p+1)
        simp only [Rs.pre,List.length_cons]
        exact ⟨this.1,by omega⟩
theorem parM_kb (d:Dl) (l:Lm) (s:Str):kB (parM d l s).k∧(parM d l s).a≤s.length:=by
  have h:=wrun_kb d l (stripM s) 0 0 {} (s.length - (stripM s).length)
  have hl:=(strip_drop s).2
  unfold parM
  exact ⟨h.1,by omega⟩
theorem mayR_kb (r:List Str):0≤mayR r∧mayR r≤14:=by
  unfold mayR
  repeat' split
  all_goals exact ⟨by simp,by simp⟩
end Go.Proofs.YtllanbmpacgigaaGreatDoor
