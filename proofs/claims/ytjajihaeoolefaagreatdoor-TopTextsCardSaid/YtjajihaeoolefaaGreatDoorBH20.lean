/- Texts of the proof, joined. -/
import Derived.Test.YtjajihaeoolefaaGreatDoorBD20
import Derived.Test.YtjajihaeoolefaaGreatDoorBS10
namespace Go.Proofs.YtjajihaeoolefaaGreatDoor
set_option linter.unusedSimpArgs false
set_option linter.unusedVariables false
open Go.RowKit
theorem asc_valid:∀ s:Str,(∀ c∈s,c.toNat < 128)→validM s=true
  | [],_=>rfl
  | c :: r,h=>by
    have h1:validM [c]=true:=by
      have:=valid_one [] c rfl
      rw [List.nil_append] at this
      rw [this];exact decide_eq_true (by have:=h c (by simp);omega)
    have h2:=(valid_app [c] r h1).1
    rw [List.singleton_append] at h2
    rw [h2]
    exact asc_valid r fun x hx=>h x (List.mem_cons_of_mem _ hx)
theorem form_asc {s:Str} (h:formM s=true):∀ c∈s,c.toNat < 128:=by
  unfold formM at h
  rw [Bool.or_eq_true,decide_eq_true_eq] at h
  rcases h with h|h
  · subst h;intro c hc;simp at hc;subst hc;decide
  · unfold bodM at h
    rw [Bool.and_eq_true,List.all_eq_true] at h
    have h2:=h.2
    unfold trM negM at h2
    intro c hc
    by_cases hn:s.take 1=[45]
    · rw [if_pos (decide_eq_true hn)] at h2
      cases s with
      | nil=>simp at hc
      | cons x r =>
        simp at hn
        rcases List.mem_cons.1 hc with e|hc
        · subst e;subst hn;decide
        · have:=h2 c (by simpa using hc)
          unfold dgB at this
          have:=of_decide_eq_true this
          omega
    · rw [if_neg (by simpa using hn)] at h2
      have:=h2 c hc
      unfold dgB at this
      have:=of_decide_eq_true this
      omega
theorem enc_valid (v:Val) (k:Int) (nl:Bool) (h:(encM v k nl).2=0):validM (encM v k nl).1=true:=by
  unfold encM at h ⊢
  by_cases hk:¬ (1≤k∧k≤3)
  · rw [if_pos hk] at h;simp at h
  rw [if_neg hk] at h ⊢
  by_cases hr:¬ (rightM v=true∧(v.kind=0∨v.kind=k))
  · rw [if_pos hr] at h;simp at h
  rw [if_neg hr] at h ⊢
  have hvs:=(right_of (Decidable.not_not.1 hr).1).2
  by_cases h0:v.kind=0
  · rw [if_pos h0]
    split<;>rfl
  rw [if_neg h0]
  by_cases h2:v.kind=2
  · rw [if_pos h2];exact asc_valid _ (form_asc (itoa_form _))
  rw [if_neg h2]
  by_cases h3:v.kind=3
  · rw [if_pos h3];cases v.b<;>decide +kernel
  rw [if_neg h3]
  split
  · show validM (92 :: v.s)=true
    rw [valid_92];exact hvs
  · exact hvs
theorem enc_len (v:Val) (k:Int) (nl:Bool) (N:Nat) (hs:v.s.length+1≤N) (hn:i64M v.n) (h20:25≤N):(encM v k nl).1.length≤N:=by
  unfold encM
  split
  · simp
  split
  · simp
  split
  · split<;>simp
  split
  · have:=Lib.itoa_length_le v.n hn.1 hn.2
    show (Lib.itoa v.n).length≤N
    omega
  split
  · show List.length (if v.b=true then ([116,114,117,101]:Str) else [102,97,108,115,101])≤N
    cases v.b<;>simp<;>omega
  split
  · show (92 :: v.s).length≤N
    simp;omega
  · show v.s.length≤N
    omega
def rngI (n:Nat):List Int:=(List.range n).map fun (i:Nat)=>(i:Int)
theorem rngI_snoc (n:Nat):rngI (n+1)=rngI n++[(n:Int)]:=by simp [rngI,List.range_succ]
theorem rngI_len (n:Nat):(rngI n).length=n:=by simp [rngI]
theorem bcF_own (names:List Str) (hn:names.Nodup) (mode:Int):∀ (r a:List Str),names=a++r→bcF names mode r (rngI a.length)=(rngI names.length,(names.length:Int),0)
  | [],a,h=>by
    rw [List.append_nil] at h;subst h
    rw [bcF,rngI_len]
  | c :: r,a,h=>by
    have hk:a.length < names.length:=by rw [h];simp
    have hat:=atM_nd names hn a.length hk
    have hg:names.getD a.length default=c:=by rw [h,List.getD_eq_getElem?_getD];simp
    rw [hg] at hat
    rw [bcF_cons,if_neg (by rw [hat,rngI_len];omega),hat,←rngI_snoc]
    have:=bcF_own names hn mode r (a++[c]) (by rw [h];simp)
    simpa using this
theorem lack_own (cols:List Str):∀ (r:List Str) (i:Nat),(∀ x∈r,x∈cols)→lackF cols r i=none
  | [],_,_=>rfl
  | n :: r,i,h=>by
    rw [lackF_cons,if_neg (by have:=(atM_mem cols n).2 (h n (by simp));omega)]
    exact lack_own cols r (i+1) fun x hx=>h x (List.mem_cons_of_mem _ hx)
theorem newF_own:∀ (r a:List Str),(a++r).Nodup→(∀ n∈r,validM n=true)→(newF a r).2=0
  | [],a,_,_=>by rw [newF]
  | n :: r,a,h,hv=>by
    rw [newF,if_pos (hv n (by simp)),if_neg]
    · exact newF_own r (a++[n]) (by simpa using h) fun x hx=>hv x (List.mem_cons_of_mem _ hx)
    · intro hc
      have hm:=(atM_mem a n).1 hc
      rw [List.nodup_append] at h
      exact h.2.2 n hm n (by simp) rfl
theorem bind_own (l:List Col) (h:(checkM (l.map nkC)).2=0) (mode:Int) (hm:1≤mode∧mode≤3):bindCM (namesC l) (l.map nkC) mode=(rngI l.length,(l.length:Int),0):=by
  obtain ⟨r1,r2,r3,r4⟩:=check_right l h
  have hnn:(l.map nkC).map (·.1)=namesC l:=by simp [nkC,namesC]
  have hnl:(namesC l).length=l.length:=by simp [namesC]
  have hnew:(newM (namesC l)).2=0:=by
    unfold newM
    rw [if_neg (by rw [hnl];intro e;exact r1 (List.eq_nil_of_length_eq_zero e))]
    exact newF_own _ [] (by simpa using r3) fun n hn=>by
      obtain ⟨c,hc,rfl⟩:=List.mem_map.1 hn
      exact (r2 c hc).2.2
  have hb:=bcF_own (namesC l) r3 mode (namesC l) [] rfl
  have hb':bcF (namesC l) mode (namesC l) []=(rngI l.length,(l.length:Int),0):=by rw [hnl] at hb;exact hb
  unfold bindCM
  rw [if_neg (by omega),if_neg (not_not_intro h),if_neg (not_not_intro hnew),hnn,hb',if_neg (by simp),lack_own _ _ _ fun x hx=>hx]
  split<;>rfl
theorem pickF_own (r:List Str):∀ (m k:Nat),k+m=r.length→pickF r ((rngI r.length).drop k) (r.take k)=(r,0)
  | 0,k,h=>by
    rw [List.drop_eq_nil_of_le (by rw [rngI_len];omega),pickF,List.take_of_length_le (by omega)]
  | m + 1,k,h=>by
    have hk:k < r.length:=by omega
    have hd:(rngI r.length).drop k=(k:Int) :: (rngI r.length).drop (k+1):=by
      rw [List.drop_eq_getElem_cons (by rw [rngI_len];exact hk)]
      simp [rngI]
    rw [hd,pickF,if_neg (by omega)]
    have e:r.take k++[r.getD (k:Int).toNat default]=r.take (k+1):=by
      rw [takeD r k (by omega)];simp
    rw [e]
    exact pickF_own r m (k+1) (by omega)
theorem pick_own (r:List Str) (n:Nat) (h:r.length=n):pickM r (rngI n)=(r,0):=by
  subst h
  unfold pickM
  rw [if_neg]
  · exact pickF_own r r.length 0 (by omega)
  · rw [Bool.not_eq_true,List.any_eq_false]
    intro x hx
    obtain ⟨i,_,rfl⟩:=List.mem_map.1 hx
    simp
theorem recF_row:∀ (v:List Val) (l:List Col) (o1:List Str) (o2:List Val),v.length=l.length→(∀ x∈v,i64M x.n)→o1.length=o2.length→(recF v l o1).2.2=0 →
    ∃ fs:List Str,(recF v l o1).1=o1++fs∧fs.length=v.length∧(recF v l o1).2.1=((o1.length+v.length:Nat):Int)∧rowF fs l o2=(o2++v,((o2.length+v.length:Nat):Int),0) ∧
      (∀ f∈fs,∃ x∈v,∃ k nl,f=(encM x k nl).1∧(encM x k nl).2=0)
  | [],[],o1,o2,_,_,_,h=>⟨[],by simp [recF],rfl,by simp [recF],by simp [rowF],by simp⟩
  | [],_ :: _,_,_,hl,_,_,_=>by simp at hl
  | _ :: _,[],_,_,hl,_,_,_=>by simp at hl
  | x :: v,c :: l,o1,o2,hl,hi,ho,h=>by
    rw [recF] at h ⊢
    by_cases he:(encM x c.kind c.null).2=0
    · rw [if_neg (not_not_intro he)] at h ⊢
      obtain ⟨fs,h1,h2,h3,h4,h5⟩:=recF_row v l (o1++[(encM x c.kind c.null).1]) (o2++[x]) (by simpa using hl) (fun y hy=>hi y (List.mem_cons_of_mem _ hy)) (by simp [ho]) h
      refine ⟨(encM x c.kind c.null).1 :: fs,by rw [h1];simp,by simp [h2],by rw [h3];simp;omega,?_,?_⟩
      · have hde:=dec_enc x c.kind c.null (hi x (by simp)) he
        rw [rowF,hde,if_neg (by simp),h4]
        simp;omega
      · intro f hf
        rcases List.mem_cons.1 hf with rfl|hf
        · exact ⟨x,by simp,c.kind,c.null,rfl,he⟩
        · obtain ⟨y,hy,k,nl,e1,e2⟩:=h5 f hf
          exact ⟨y,List.mem_cons_of_mem _ hy,k,nl,e1,e2⟩
    · rw [if_pos he] at h
      exact absurd h he
theorem rec_row (v:List Val) (l:List Col) (hi:∀ x∈v,i64M x.n) (h:(recM v l).2.2=0) :
    (recM v l).1.length=l.length∧rowM (recM v l).1 l=(v,(l.length:Int),0)∧(∀ f∈(recM v l).1,∃ x∈v,∃ k nl,f=(encM x k nl).1∧(encM x k nl).2=0):=by
  unfold recM at h ⊢
  by_cases hl:(v.length:Int)=l.length
  · rw [if_pos hl] at h ⊢
    obtain ⟨fs,h1,h2,h3,h4,h5⟩:=recF_row v l [] [] (by omega) hi rfl h
    simp only [List.nil_append,List.length_nil,Nat.zero_add] at h1 h4
    rw [h1]
    refine ⟨by omega,?_,h5⟩
    unfold rowM
    rw [if_pos (by omega),h4]
    simp;omega
  · rw [if_neg hl] at h;simp at h
def wrF (l:List Col):List (List Val)→List (List Str)→List (List Str)×Bd
  | [],out=>(out,⟨0,0,0,0⟩)
  | v :: t,out=>if (recM v l).2.2≠0 then ([],⟨(recM v l).2.2,(out.length:Int),(recM v l).2.1,0⟩) else wrF l t (out++[(recM v l).1])
def writeM (d:Dl) (l:List Col) (rows:List (List Val)):Str×Bd :=
  if (checkM (l.map nkC)).2≠0 then ([],⟨(checkM (l.map nkC)).2,0,(checkM (l.map nkC)).1,0⟩) else
  if rightD d=false then ([],⟨1,0,0,0⟩) else
  if (wrF l rows [namesC l]).2.k≠0 then ([],(wrF l rows [namesC l]).2) else (txtF d true (wrF l rows [namesC l]).1,⟨0,0,0,0⟩)
theorem wrF_ok (l:List Col):∀ (rows:List (List Val)) (out:List (List Str)),(wrF l rows out).2.k=0→(wrF l rows out)=(out++rows.map (fun v=>(recM v l).1),⟨0,0,0,0⟩)∧∀ v∈rows,(recM v l).2.2=0
  | [],out,h=>by simp [wrF]
  | v :: t,out,h=>by
    rw [wrF] at h ⊢
    by_cases he:(recM v l).2.2=0
    · rw [if_neg (not_not_intro he)] at h ⊢
      obtain ⟨h1,h2⟩:=wrF_ok l t _ h
      refine ⟨by rw [h1];simp,fun x hx=>?_⟩
      rcases List.mem_cons.1 hx with rfl|hx
      · exact he
      · exact h2 x hx
    · rw [if_pos he] at h;exact absurd h he
theorem rdF_own (l:List Col) (hne:l≠[]):∀ (rows:List (List Val)) (out:List (List Val)),(∀ v∈rows,(∀ x∈v,i64M x.n)∧(recM v l).2.2=0) →
    rdF l.length (rngI l.length) l 0 0 (rows.map fun v=>(recM v l).1) out=(out++rows,⟨0,0,0,0⟩)
  | [],out,_=>by simp [rdF]
  | v :: t,out,h=>by
    obtain ⟨h1,h2⟩:=h v (by simp)
    obtain ⟨g1,g2,_⟩:=rec_row v l h1 h2
    rw [List.map_cons,rdF,if_neg (by simp [g1]),pick_own _ _ g1,if_neg (by simp),g2,if_neg (by simp)]
    have:=rdF_own l hne t (out++[v]) fun x hx=>h x (List.mem_cons_of_mem _ hx)
    simpa using this
theorem may_row {r:List Str} (h0:r≠[]) (h:∀ f∈r,validM f=true):mayR r=0:=by
  unfold mayR
  rw [if_neg h0,if_pos (List.all_eq_true.2 h)]
theorem write_tab (l:List Col) (hck:(checkM (l.map nkC)).2=0) (hl:l.length≤1000) (hln:∀ c∈l,c.name.length≤1000) (rows:List (List Val)) (hr:∀ v∈rows,(∀ x∈v,i64M x.n∧x.s.length≤900)∧(recM v l).2.2=0) :
    ∀ r∈namesC l :: rows.map (fun v=>(recM v l).1),mayR r=0∧r.length≤1000∧∀ f∈r,f.length≤1000:=by
  obtain ⟨r1,r2,r3,r4⟩:=check_right l hck
  intro r hm
  rcases List.mem_cons.1 hm with rfl|hm
  · refine ⟨may_row (by simpa [namesC] using r1) fun f hf=>?_,by simpa [namesC] using hl,fun f hf=>?_⟩
    · obtain ⟨c,hc,rfl⟩:=List.mem_map.1 hf
      exact (r2 c hc).2.2
    · obtain ⟨c,hc,rfl⟩:=List.mem_map.1 hf
      exact hln c hc
  · obtain ⟨v,hv,rfl⟩:=List.mem_map.1 hm
    obtain ⟨h1,h2⟩:=hr v hv
    obtain ⟨g1,g2,g3⟩:=rec_row v l (fun x hx=>(h1 x hx).1) h2
    have hne:(recM v l).1≠[]:=fun e=>by
      rw [e] at g1
      exact r1 (List.eq_nil_of_length_eq_zero g1.symm)
    refine ⟨may_row hne fun f hf=>?_,by omega,fun f hf=>?_⟩
    · obtain ⟨x,hx,k,nl,rfl,he⟩:=g3 f hf
      exact enc_valid x k nl he
    · obtain ⟨x,hx,k,nl,rfl,he⟩:=g3 f hf
      exact enc_len x k nl 1000 (by have:=(h1 x hx).2;omega) (h1 x hx).1 (by decide)
theorem read_own {d:Dl} (hd:byD d) (hrt:rightD d=true) (l:List Col) (hck:(checkM (l.map nkC)).2=0) (hl:l.length≤1000) (hln:∀ c∈l,c.name.length≤1000) (mode:Int) (hm:1≤mode∧mode≤3)
    (rows:List (List Val)) (hn:rows.length≤900) (hr:∀ v∈rows,(∀ x∈v,i64M x.n∧x.s.length≤900)∧(recM v l).2.2=0) :
    readM d l mode (txtF d true (namesC l :: rows.map fun v=>(recM v l).1))=(rows,⟨0,0,0,0⟩):=by
  obtain ⟨r1,r2,r3,r4⟩:=check_right l hck
  obtain ⟨p1,p2⟩:=txt_par hd hrt (namesC l :: rows.map fun v=>(recM v l).1) (by simp;omega) (write_tab l hck hl hln rows hr)
  have hnl:(namesC l).length=l.length:=by simp [namesC]
  unfold readM
  rw [if_neg (not_not_intro hck),if_neg (by omega),if_neg (by rw [hrt];decide),p1,p2,rdT,bind_own l hck mode hm,if_neg (by simp)]
  have ha:((parM d wideL (txtF d true (namesC l :: rows.map fun v=>(recM v l).1))).a:Int)=(parM d wideL (txtF d true (namesC l :: rows.map fun v=>(recM v l).1))).a:=rfl
  generalize (parM d wideL (txtF d true (namesC l :: rows.map fun v=>(recM v l).1))).a=a at *
  have key:∀ (t:List (List Str)) (out:List (List Val)) (a b:Int),rdF l.length (rngI l.length) l 0 a t out=rdF l.length (rngI l.length) l 0 b t out:=by
    intro t
    induction t with
    | nil=>intro out a b;rw [rdF,rdF];simp
    | cons r t ih=>intro out a b;rw [rdF,rdF];rw [ih _ a b]
  show rdF (namesC l).length (rngI l.length) l 0 (a:Int) _ []=_
  rw [hnl,key _ _ (a:Int) 0]
  have:=rdF_own l r1 rows [] fun v hv=>⟨fun x hx=>((hr v hv).1 x hx).1,(hr v hv).2⟩
  simpa using this
end Go.Proofs.YtjajihaeoolefaaGreatDoor
namespace Go.Proofs.YtjajihaeoolefaaGreatDoor
set_option linter.unusedSimpArgs false
set_option linter.unusedVariables false
open Go.RowKit
theorem write_size {d:Dl} (l:List Col) (hck:(checkM (l.map nkC)).2=0) (A N:Nat) (hl:l.length≤A) (h25:25≤N) (hln:∀ c∈l,c.name.length≤N) (rows:List (List Val)) (hr:∀ v∈rows,(∀ x∈v,i64M x.n∧x.s.length+1≤N)∧(recM v l).2.2=0) :
    (txtF d true (namesC l :: rows.map fun v=>(recM v l).1)).length≤(rows.length+1) * (A * (2 * N+3)+2):=by
  have := txt_len d A N (namesC l :: rows.map fun v=>(recM v l).1) true fun r hm=>by
    rcases List.mem_cons.1 hm with rfl|hm
    · refine ⟨by simpa [namesC] using hl,fun f hf=>?_⟩
      obtain ⟨c,hc,rfl⟩:=List.mem_map.1 hf
      exact hln c hc
    · obtain ⟨v,hv,rfl⟩:=List.mem_map.1 hm
      obtain ⟨h1,h2⟩:=hr v hv
      obtain ⟨g1,g2,g3⟩:=rec_row v l (fun x hx=>(h1 x hx).1) h2
      refine ⟨by omega,fun f hf=>?_⟩
      obtain ⟨x,hx,k,nl,rfl,he⟩:=g3 f hf
      exact enc_len x k nl N (h1 x hx).2 (h1 x hx).1 h25
  simpa using this
theorem writeM_good (d:Dl) (l:List Col) (rows:List (List Val)) (h:(writeM d l rows).2.k=0):(checkM (l.map nkC)).2=0∧rightD d=true∧(∀ v∈rows,(recM v l).2.2=0)∧writeM d l rows=(txtF d true (namesC l :: rows.map fun v=>(recM v l).1),⟨0,0,0,0⟩):=by
  unfold writeM at h ⊢
  by_cases h1:(checkM (l.map nkC)).2=0
  · rw [if_neg (not_not_intro h1)] at h ⊢
    cases hr:rightD d
    · rw [if_pos hr] at h;simp at h
    · rw [if_neg (by rw [hr];decide)] at h
      rw [if_neg (by decide)]
      by_cases hk:(wrF l rows [namesC l]).2.k=0
      · obtain ⟨g1,g2⟩:=wrF_ok l rows _ hk
        rw [if_neg (not_not_intro hk),g1]
        exact ⟨h1,rfl,g2,by simp⟩
      · rw [if_pos hk] at h;exact absurd h hk
  · rw [if_pos h1] at h;exact absurd h h1
theorem wrF_all (l:List Col):∀ (rows:List (List Val)) (out:List (List Str)),(∀ v∈rows,(recM v l).2.2=0)→(wrF l rows out).2.k=0
  | [],out,_=>by rw [wrF]
  | v :: t,out,h=>by
    rw [wrF,if_neg (not_not_intro (h v (by simp)))]
    exact wrF_all l t _ fun x hx=>h x (List.mem_cons_of_mem _ hx)
theorem writeM_all (d:Dl) (l:List Col) (rows:List (List Val)) (h1:(checkM (l.map nkC)).2=0) (hr:rightD d=true) (h:∀ v∈rows,(recM v l).2.2=0):(writeM d l rows).2.k=0:=by
  unfold writeM
  rw [if_neg (not_not_intro h1),if_neg (by rw [hr];decide),if_neg (not_not_intro (wrF_all l rows _ h))]
end Go.Proofs.YtjajihaeoolefaaGreatDoor
