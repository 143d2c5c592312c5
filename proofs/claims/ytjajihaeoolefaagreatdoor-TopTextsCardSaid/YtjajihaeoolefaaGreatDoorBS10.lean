/- Texts of the proof, joined. -/
import Derived.Test.YtjajihaeoolefaaGreatDoorBR10
import Derived.Test.YtjajihaeoolefaaGreatDoorBB06
namespace Go.Proofs.YtjajihaeoolefaaGreatDoor
set_option linter.unusedSimpArgs false
set_option linter.unusedVariables false
def Full (q:Int) (t:Str) (q':Int):Prop:=runM q t=(q',t.length)
theorem Full.nil {q:Int}:Full q [] q:=rfl
theorem Full.cons {q s q':Int} {b:UInt8} {t:Str} (h:stepM q b.toNat=(s,true)) (hf:Full s t q'):Full q (b :: t) q':=by
  unfold Full at *
  rw [run_y h,hf];rfl
theorem Full.un {q q':Int} {b:UInt8} {t:Str} (h:Full q (b :: t) q'):∃ s,stepM q b.toNat=(s,true)∧Full s t q':=by
  unfold Full at *
  cases hs:stepM q b.toNat with
  | mk s ok =>
    cases ok
    · rw [run_n hs] at h
      simp at h
    · rw [run_y hs] at h
      injection h with h1 h2
      refine ⟨s,rfl,?_⟩
      rw [←h1]
      simp only [List.length_cons] at h2
      exact Prod.ext rfl (by simp only;omega)
theorem Full.app {q q1 q2:Int} {b:Str}:∀ {a:Str},Full q a q1→Full q1 b q2→Full q (a++b) q2:=by
  intro a
  induction a generalizing q with
  | nil => intro h1 h2;have:q1=q:=by unfold Full at h1;rw [run_nil] at h1;injection h1 with h _;exact h.symm
           subst this;exact h2
  | cons c a ih =>
    intro h1 h2
    obtain ⟨s,e,h3⟩:=h1.un
    exact Full.cons e (ih h3 h2)
theorem ascii7 {q:Int} {b:UInt8} (hb:(b.toNat:Int) < 128) (h:(stepM q b.toNat).2=true):q=0∧stepM q b.toNat=(0,true):=by
  have h0:(0:Int)≤b.toNat:=by omega
  have hf:∀ lo hi n:Int,128≤lo→(followM (b.toNat:Int) lo hi n).2=false:=by
    intro lo hi n hlo
    unfold followM
    split<;>first|rfl|(exfalso;omega)
  unfold stepM at h ⊢
  by_cases hq:q=0
  · subst hq
    refine ⟨rfl,?_⟩
    rw [if_pos rfl] at h ⊢
    unfold beginM
    rw [if_pos (by omega)]
  · rw [if_neg hq] at h
    exfalso
    repeat' split at h
    all_goals first
    | (rw [hf _ _ _ (by decide)] at h;simp at h)
    | simp at h
theorem ascii0 {b:UInt8} (hb:(b.toNat:Int) < 128):stepM 0 b.toNat=(0,true):=by
  unfold stepM
  rw [if_pos rfl]
  unfold beginM
  rw [if_pos (by omega)]
theorem valid_full {f:Str} (h:validM f=true):Full 0 f 0:=by
  obtain ⟨h1,h2⟩:=valid_run h
  exact Prod.ext h2 h1
theorem quo_full {c:UInt8} (hc:(c.toNat:Int) < 128):∀ (f:Str) {q q':Int},Full q f q'→Full q (f.flatMap (quoB c)) q'
  | [],_,_,h=>h
  | x :: f,q,q',h=>by
    obtain ⟨s,e,h2⟩:=h.un
    rw [List.flatMap_cons]
    by_cases hx:x=c
    · subst hx
      obtain ⟨rfl,e2⟩:=ascii7 hc (by rw [e])
      have:s=0:=by rw [e] at e2;injection e2
      subst this
      simp only [quoB,if_true,List.cons_append,List.nil_append]
      exact Full.cons e2 (Full.cons e2 (quo_full hc f h2))
    · simp only [quoB,if_neg hx,List.cons_append,List.nil_append]
      exact Full.cons e (quo_full hc f h2)
section
variable {d:Dl}
theorem wr_full (hq:((bQ d).toNat:Int) < 128) {f:Str} {a b:Bool} (h:validM f=true):Full 0 (wrM d f a b) 0:=by
  have hf:=valid_full h
  unfold wrM
  split
  · unfold quoM
    rw [List.cons_append]
    exact Full.cons (ascii0 hq) ((quo_full hq f hf).app (Full.cons (ascii0 hq) Full.nil))
  · exact hf
theorem line_full (hq:((bQ d).toNat:Int) < 128) (hdl:((bD d).toNat:Int) < 128) (n:Nat) (first:Bool):∀ (r:List Str) (i:Nat),r.all validM=true→Full 0 (lineF d n first i r) 0
  | [],_,_=>Full.nil
  | f :: r,i,h=>by
    simp only [List.all_cons,Bool.and_eq_true] at h
    simp only [lineF,pieceM]
    refine Full.app ?_ (line_full hq hdl n first r (i+1) h.2)
    split
    · exact Full.app (Full.cons (ascii0 hdl) Full.nil) (wr_full hq h.1)
    · exact wr_full hq h.1
theorem go_wrun {l:Lm} {b:Str}:∀ (a:Str) {q q' st st':Int} {m m':Mk} (p:Nat),goR d l st m a=some (st',m')→Full q a q'→wrun d l q st m p (a++b)=wrun d l q' st' m' (p+a.length) b
  | [],q,q',st,st',m,m',p,h,hf=>by
    simp only [goR,Option.some.injEq,Prod.mk.injEq] at h
    obtain ⟨rfl,rfl⟩:=h
    have:q'=q:=by unfold Full at hf;rw [run_nil] at hf;injection hf with h _;exact h.symm
    subst this;rfl
  | c :: a,q,q',st,st',m,m',p,h,hf=>by
    obtain ⟨s,e,hf2⟩:=hf.un
    rw [goR] at h
    split at h
    · rename_i s1 m1 hs
      rw [List.cons_append,wrun_cons]
      have hw:stepW d l q st m c=.ok (s,s1,m1,none):=by unfold stepW;rw [e,if_neg (by simp),hs]
      rw [hw]
      simp only [oneR,pre_nil]
      rw [go_wrun a (p+1) h hf2]
      congr 1
      simp only [List.length_cons];omega
    · simp at h
end
end Go.Proofs.YtjajihaeoolefaaGreatDoor
namespace Go.Proofs.YtjajihaeoolefaaGreatDoor
set_option linter.unusedSimpArgs false
set_option linter.unusedVariables false
section
variable {d:Dl}
theorem lf_or {b:UInt8} (h:(b.toNat:Int)=13∨(b.toNat:Int)=10):(b.toNat:Int) < 128:=by omega
structure SpanAt (d:Dl) (q st:Int) (m:Mk) (p:Nat) (t:Str) (SP:List (Nat×Nat)) (i:Nat) (a b:Str) (m2:Mk) (fr2 to2:Nat):Prop where
  cut:t=a++b
  sp:spW d wideL 0 0 m2 fr2 to2 (p+a.length) b=SP.drop i
  rc:m2.rc=[]
  fl:m2.fl=[]
  bg:∃ c b',b=c :: b'∧(scM d 0 c).1.b=true
  lf:(a=[]∧st=0)∨∃ a' z,a=a'++[z]∧(z.toNat:Int)=10
  run:∀ b2,wrun d wideL q st m p (a++b2)=(wrun d wideL 0 0 m2 (p+a.length) b2).pre ((wrun d wideL q st m p t).rs.take i)
theorem SpanAt.cons {q st:Int} {m:Mk} {p:Nat} {b:UInt8} {t:Str} {x:Int×Int×Mk×Option (List Str)} {SP:List (Nat×Nat)} {i:Nat} {a c:Str} {m2:Mk} {fr2 to2:Nat} (he:stepW d wideL q st m b=.ok x)
    (h:SpanAt d x.1 x.2.1 x.2.2.1 (p+1) t SP i a c m2 fr2 to2) (hz:a=[]→x.2.1=0→(b.toNat:Int)=10) {SP':List (Nat×Nat)} {n:Nat} (hn:n=(oneR x.2.2.2 p).length) (hSP:SP'.drop (n+i)=SP.drop i) :
    SpanAt d q st m p (b :: t) SP' (n+i) (b :: a) c m2 fr2 to2:=by
  obtain ⟨h1,h2,h3,h4,h5,h6,h7⟩:=h
  have e1:p+(b :: a).length=p+1+a.length:=by simp only [List.length_cons];omega
  refine ⟨by rw [h1];rfl,by rw [e1,h2,hSP],h3,h4,h5,?_,fun b2=>?_⟩
  · rcases h6 with ⟨ha,hst⟩|⟨a',z,ha,hz'⟩
    · subst ha;exact .inr ⟨[],b,rfl,hz rfl hst⟩
    · exact .inr ⟨b :: a',z,by rw [ha];rfl,hz'⟩
  · rw [e1,List.cons_append,wrun_cons,he,wrun_cons,he]
    simp only
    rw [h7 b2,pre_pre]
    congr 1
    simp only [Rs.pre]
    rw [hn,List.take_length_add_append]
end
end Go.Proofs.YtjajihaeoolefaaGreatDoor
namespace Go.Proofs.YtjajihaeoolefaaGreatDoor
set_option linter.unusedSimpArgs false
set_option linter.unusedVariables false
end Go.Proofs.YtjajihaeoolefaaGreatDoor
namespace Go.Proofs.YtjajihaeoolefaaGreatDoor
set_option linter.unusedSimpArgs false
set_option linter.unusedVariables false
section
variable {d:Dl}
theorem right_ascii (hd:byD d) (h:rightD d=true):((bQ d).toNat:Int) < 128∧((bD d).toNat:Int) < 128:=by
  have hq:((bQ d).toNat:Int)=d.q:=byte_of ⟨hd.2.2.1,hd.2.2.2⟩
  have hdl:((bD d).toNat:Int)=d.dl:=byte_of ⟨hd.1,hd.2.1⟩
  unfold rightD mayB at h
  simp only [Bool.and_eq_true,decide_eq_true_eq,Bool.not_eq_true',decide_eq_false_iff_not] at h
  omega
theorem may_parts {r:List Str} (h:mayR r=0):r≠[]∧r.all validM=true:=by
  unfold mayR at h
  split at h
  · simp at h
  · rename_i hr
    split at h
    · exact ⟨hr,by assumption⟩
    · simp at h
theorem line_nobom (hd:byD d) (hr:rightD d=true) {r:List Str} (hm:mayR r=0) {e:Str} (he:e=[]∨∃ z e',e=z :: e'∧((z.toNat:Int)=13∨(z.toNat:Int)=10)):¬ (lineF d r.length true 0 r++e).take 3=[239,187,191]:=by
  obtain ⟨aq,adl⟩:=right_ascii hd hr
  obtain ⟨hr0,_⟩:=may_parts hm
  match r,hr0 with
  | f :: r,_ =>
    intro h
    have hL:lineF d (f :: r).length true 0 (f :: r)=wrM d f (decide ((f :: r).length=1)) true++lineF d (f :: r).length true 1 r:=by
      simp only [lineF,pieceM,Nat.lt_irrefl,if_false,List.nil_append,Nat.zero_add,Bool.true_and,decide_true]
    rw [hL,List.append_assoc] at h
    have hrest:∀ c g,lineF d (f :: r).length true 1 r++e=c :: g→(c.toNat:Int) < 128:=by
      intro c g hcg
      match r with
      | [] =>
        simp only [lineF,List.nil_append] at hcg
        rcases he with rfl|⟨z,e',rfl,hz⟩
        · simp at hcg
        · have h1:z=c:=(List.cons.inj hcg).1
          have h2:=lf_or hz
          rw [h1] at h2;exact h2
      | x :: r =>
        simp only [lineF,pieceM,Nat.lt_add_one,if_true,List.cons_append,List.nil_append] at hcg
        have h1:bD d=c:=(List.cons.inj hcg).1
        have h2:=adl
        rw [h1] at h2;exact h2
    generalize lineF d (f :: r).length true 1 r++e=G at *
    unfold wrM at h
    split at h
    · simp only [quoM,List.cons_append,List.take_succ_cons] at h
      injection h with h1 _
      rw [h1] at aq
      exact absurd aq (by decide)
    · rename_i hw
      have h0:¬ (f.take 3=[239,187,191]):=by
        intro hf
        apply hw
        unfold whyM
        repeat' split
        all_goals first|decide|(exfalso;rename_i h5;exact h5 ⟨rfl,hf⟩)
      match f with
      | [] =>
        match G with
        | []=>simp at h
        | c :: g =>
          simp only [List.nil_append,List.take_succ_cons] at h
          injection h with h1 _
          have:=hrest c g rfl
          rw [h1] at this;exact absurd this (by decide)
      | [x] =>
        match G with
        | []=>simp at h
        | c :: g =>
          simp only [List.cons_append,List.nil_append,List.take_succ_cons] at h
          injection h with _ h1
          injection h1 with h1 _
          have:=hrest c g rfl
          rw [h1] at this;exact absurd this (by decide)
      | [x,y] =>
        match G with
        | []=>simp at h
        | c :: g =>
          simp only [List.cons_append,List.nil_append,List.take_succ_cons] at h
          injection h with _ h1
          injection h1 with _ h1
          injection h1 with h1 _
          have:=hrest c g rfl
          rw [h1] at this;exact absurd this (by decide)
      | x :: y :: z :: f =>
        simp only [List.cons_append,List.take_succ_cons,List.take_zero] at h h0
        exact h0 h
end
end Go.Proofs.YtjajihaeoolefaaGreatDoor
namespace Go.Proofs.YtjajihaeoolefaaGreatDoor
set_option linter.unusedSimpArgs false
set_option linter.unusedVariables false
open Go.RowKit
def txtF (d:Dl) (first:Bool):List (List Str)→Str
  | []=>[]
  | r :: t=>lineM d r first++txtF d false t
theorem txtF_snoc (d:Dl):∀ (t:List (List Str)) (first:Bool) (r:List Str),txtF d first (t++[r])=txtF d first t++lineM d r (first && decide (t.length=0))
  | [],first,r=>by simp [txtF]
  | x :: t,first,r=>by
    simp only [List.cons_append,txtF,txtF_snoc d t false r,List.append_assoc,Bool.false_and]
    congr 2
    simp
section
variable {d:Dl} {l:Lm}
theorem eol_run (hr:Rt d) (hU:l.U=false) {st:Int} {m:Mk} (p:Nat) (hs:aft st) (rest:Str):∃ p1 p2,wrun d l 0 st m p (endM d++rest)=(wrun d l 0 0 m.put.out p1 rest).pre [(m.rc++[m.fl],p2)]:=by
  have hst:m.strict l=false:=by simp [Mk.strict,hU]
  have hw:∀ {st:Int} {m:Mk} {z:UInt8},(z.toNat:Int)=13∨(z.toNat:Int)=10→stepW d l 0 st m z=match stepR d l st m z with|.error k=>.error k|.ok x=>.ok (0,x):=fun {st m z} hz=>by
    have hq:=ascii0 (lf_or hz)
    unfold stepW;rw [hq,if_neg (by simp)];rfl
  unfold endM
  by_cases he:d.e=2
  · rw [if_pos he]
    refine ⟨p+1+1,p+1,?_⟩
    rw [List.cons_append,wrun_cons,hw (.inl rfl),a_13 hr hs rfl,if_neg (by omega),if_neg (by rw [hst];simp)]
    simp only [oneR,pre_nil]
    rw [List.cons_append,wrun_cons,hw (.inr rfl),s5_10 rfl]
    rfl
  · rw [if_neg he]
    refine ⟨p+1,p,?_⟩
    rw [List.cons_append,wrun_cons,hw (.inr rfl),a_10 hr hs rfl,if_neg he,if_neg (by rw [hst];simp)]
    rfl
theorem txt_run (hr:Rt d) (hd:byD d) (hrt:rightD d=true) (hU:l.U=false) (hF:1000 < l.F) (hN:1000 < l.N):∀ (t:List (List Str)) (first:Bool) (m:Mk) (p:Nat),m.fl=[]→m.rc=[]→((m.bg:Int)+t.length≤l.R)→(∀ r∈t,mayR r=0∧r.length≤1000∧∀ f∈r,f.length≤1000) →
    (wrun d l 0 0 m p (txtF d first t)).rs.map Prod.fst=t∧(wrun d l 0 0 m p (txtF d first t)).k=0
  | [],first,m,p,_,_,_,_=>by
    rw [txtF,wrun_nil];unfold endW;rw [if_neg (by decide),s0_e];exact ⟨rfl,rfl⟩
  | r :: t,first,m,p,h1,h2,h3,h4=>by
    obtain ⟨hm,hl,hf⟩:=h4 r (by simp)
    obtain ⟨hr0,hv⟩:=may_parts hm
    obtain ⟨aq,adl⟩:=right_ascii hd hrt
    simp only [List.length_cons] at h3
    obtain ⟨st',m',hs,hg,hrec,hbg,hct,hwd⟩:=line_run (l:=l) hr hd hU first r m hr0 h1 h2 (fun f hf'=>by have:=hf f hf';omega) (by omega) (by omega)
    obtain ⟨p1,p2,e⟩:=eol_run (l:=l) hr hU (m:=m') (p+(lineF d r.length first 0 r).length) hs (txtF d false t)
    have ih:=txt_run hr hd hrt hU hF hN t false m'.put.out p1 rfl rfl (by show ((m'.bg:Int)+_≤_);omega) (fun x hx=>h4 x (by simp [hx]))
    rw [txtF,lineM,List.append_assoc,go_wrun _ p hg (line_full aq adl r.length first r 0 hv),e]
    refine ⟨?_,ih.2⟩
    simp only [Rs.pre,List.map_append,List.map_cons,List.map_nil,hrec,ih.1,List.singleton_append]
end
theorem end_cons (d:Dl) (x:Str):∃ z e',endM d++x=z :: e'∧((z.toNat:Int)=13∨(z.toNat:Int)=10):=by
  unfold endM
  split
  · exact ⟨13,[10]++x,rfl,.inl rfl⟩
  · exact ⟨10,x,rfl,.inr rfl⟩
theorem txt_par {d:Dl} (hd:byD d) (hrt:rightD d=true) (t:List (List Str)) (h0:t.length≤1000) (h:∀ r∈t,mayR r=0∧r.length≤1000∧∀ f∈r,f.length≤1000):(parM d wideL (txtF d true t)).rs.map Prod.fst=t∧(parM d wideL (txtF d true t)).k=0:=by
  have hb:stripM (txtF d true t)=txtF d true t:=by
    unfold stripM
    rw [if_neg]
    match t,h with
    | [],_=>simp [txtF]
    | r :: t,h =>
      have:=line_nobom hd hrt (h r (by simp)).1 (e:=endM d++txtF d false t) (.inr (end_cons d _))
      rw [txtF,lineM,List.append_assoc];exact this
  have:=txt_run (l:=wideL) (right_rt hrt) hd hrt rfl (by decide) (by decide) t true {} ((txtF d true t).length - (stripM (txtF d true t)).length) rfl rfl (by show ((0:Nat):Int)+_≤2147483648;omega) h
  unfold parM
  rw [hb] at this ⊢
  exact this
theorem end_len (d:Dl):(endM d).length≤2:=by unfold endM;split<;>simp
theorem txt_len (d:Dl) (A N:Nat):∀ (t:List (List Str)) (first:Bool),(∀ r∈t,r.length≤A∧∀ f∈r,f.length≤N)→(txtF d first t).length≤t.length * (A * (2 * N+3)+2)
  | [],_,_=>by simp [txtF]
  | r :: t,first,h=>by
    have ih:=txt_len d A N t false fun x hx=>h x (by simp [hx])
    obtain ⟨h1,h2⟩:=h r (by simp)
    have h3:=lineF_len d r.length first N r 0 h2
    have h4:=end_len d
    have h5:r.length * (2 * N+3)≤A * (2 * N+3):=Nat.mul_le_mul_right _ h1
    simp only [txtF,lineM,List.length_append,List.length_cons,Nat.add_mul]
    generalize A * (2 * N+3)=z at *
    generalize r.length * (2 * N+3)=y at *
    omega
end Go.Proofs.YtjajihaeoolefaaGreatDoor
