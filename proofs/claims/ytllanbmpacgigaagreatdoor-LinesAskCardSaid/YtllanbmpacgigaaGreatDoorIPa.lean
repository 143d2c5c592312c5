/- Texts of the proof, joined. -/
import Derived.Lib.ItoaNum
namespace Go.Proofs.YtllanbmpacgigaaGreatDoor
set_option linter.unusedSimpArgs false
set_option linter.unusedVariables false
def followM (b least most next:Int):Int×Bool:=if b < least∨most < b then (0,false) else (next,true)
def beginM (b:Int):Int×Bool :=
 if b≤0x7F then (0,true) else if b < 0xC2 then (0,false) else if b≤0xDF then (1,true) else if b=0xE0 then (4,true) else if b=0xED then (5,true)
 else if b≤0xEF then (2,true) else if b=0xF0 then (6,true) else if b≤0xF3 then (3,true) else if b=0xF4 then (7,true) else (0,false)
def stepM (s b:Int):Int×Bool :=
 if s=0 then beginM b else if s=1 then followM b 0x80 0xBF 0 else if s=2 then followM b 0x80 0xBF 1 else if s=3 then followM b 0x80 0xBF 2
 else if s=4 then followM b 0xA0 0xBF 1 else if s=5 then followM b 0x80 0x9F 1 else if s=6 then followM b 0x90 0xBF 2 else if s=7 then followM b 0x80 0x8F 2 else (0,false)
def runM (st:Int):List UInt8→Int×Nat
 | []=>(st,0)
 | b :: l=>if (stepM st b.toNat).2=true then ((runM (stepM st b.toNat).1 l).1,(runM (stepM st b.toNat).1 l).2+1) else (st,0)
def validM (l:List UInt8):Bool:=((runM 0 l).2 == l.length) && ((runM 0 l).1 == 0)
def badM (l:List UInt8):Int×Int:=if (runM 0 l).2 < l.length then (3,(runM 0 l).2) else if (runM 0 l).1≠0 then (12,(runM 0 l).2) else (0,0)
def longM (st:Int) (best i:Nat):List UInt8→Nat
 | []=>best
 | b :: l=>if (stepM st b.toNat).2=true then longM (stepM st b.toNat).1 (if (stepM st b.toNat).1=0 then i+1 else best) (i+1) l else best
abbrev B (n:Int):UInt8:=UInt8.ofNat n.toNat
def putM (c:Int):List UInt8 :=
 if c < 128 then [B c] else if c < 2048 then [B (192+c / 64),B (128+c % 64)]
 else if c < 65536 then [B (224+c / 4096),B (128+c / 64 % 64),B (128+c % 64)]
 else [B (240+c / 262144),B (128+c / 4096 % 64),B (128+c / 64 % 64),B (128+c % 64)]
def bat (l:List UInt8) (i:Nat):Int:=((l.getD i 0).toNat:Int)
def candM (n:Nat) (l:List UInt8):Int :=
 if n=1 then bat l 0 else if n=2 then (bat l 0 - 192) * 64+bat l 1 - 128 else if n=3 then (bat l 0 - 224) * 4096+(bat l 1 - 128) * 64+bat l 2 - 128
 else (bat l 0 - 240) * 262144+(bat l 1 - 128) * 4096+(bat l 2 - 128) * 64+bat l 3 - 128
def rangeM (c:Int):Bool:=decide (0≤c∧c≤1114111∧(c < 55296∨57343 < c))
def okM2 (n:Nat) (l:List UInt8):Bool:=rangeM (candM n l) && (putM (candM n l) == l.take n)
def sizeF:Nat→Nat→List UInt8→Nat
 | 0,_,_=>0
 | f+1,n,l=>if n≤4∧n≤l.length then (if okM2 n l=true then n else sizeF f (n+1) l) else 0
def sizeM (l:List UInt8):Nat:=sizeF 5 1 l
def tstM (s:List UInt8) (a b:Nat):Bool:=decide (s.length≤sizeM (s++[B (128+a),B (128+b),128])∧0 < sizeM (s++[B (128+a),B (128+b),128]))
def goesW (s:List UInt8):Nat:=if s.length > 1 then 1 else 64
def goesM (s:List UInt8):Bool:=(List.range 64).any fun a=>(List.range (goesW s)).any fun b=>tstM s a b
theorem sizeF_le:∀ (f n:Nat) (l:List UInt8),sizeF f n l≤l.length:=by
 intro f
 induction f with
 | zero=>intro n l;simp [sizeF]
 | succ f ih =>
   intro n l
   simp only [sizeF]
   split
   ·rename_i h
    split
    ·exact h.2
    ·exact ih _ _
   ·omega
theorem sizeM_le (l:List UInt8):sizeM l≤l.length:=sizeF_le _ _ _
def wholeM (l:List UInt8):Nat:=if h:l≠[]∧0 < sizeM l then sizeM l+wholeM (l.drop (sizeM l)) else 0
termination_by l.length
decreasing_by
 have:=List.length_pos_iff.2 h.1
 simp only [List.length_drop]
 omega
theorem wholeM_yes (l:List UInt8) (h1:l≠[]) (h2:0 < sizeM l):wholeM l=sizeM l+wholeM (l.drop (sizeM l)):=by
 rw [wholeM,dif_pos ⟨h1,h2⟩]
theorem wholeM_no (l:List UInt8) (h:¬ (l≠[]∧0 < sizeM l)):wholeM l=0:=by
 rw [wholeM,dif_neg h]
theorem wholeM_le:∀ (n:Nat) (l:List UInt8),l.length≤n→wholeM l≤l.length:=by
 intro n
 induction n with
 | zero=>intro l h;rw [wholeM_no];omega;intro hh;exact hh.1 (List.length_eq_zero_iff.1 (by omega))
 | succ n ih =>
   intro l h
   by_cases hh:l≠[]∧0 < sizeM l
   ·rw [wholeM_yes l hh.1 hh.2]
    have:=sizeM_le l
    have:=ih (l.drop (sizeM l)) (by simp;omega)
    simp only [List.length_drop] at this
    omega
   ·rw [wholeM_no l hh];omega
theorem goesM_true {s:List UInt8} {a b:Nat} (ha:a < 64) (hb:b < goesW s) (h:tstM s a b=true):goesM s=true:=by
 simp only [goesM,List.any_eq_true,List.mem_range]
 exact ⟨a,ha,b,hb,h⟩
theorem goesM_false {s:List UInt8} (h:∀ a,a < 64→∀ b,b < goesW s→tstM s a b=false):goesM s=false:=by
 simp only [goesM,List.any_eq_false,List.mem_range,Bool.not_eq_true]
 exact fun a ha=>h a ha
def GoesM (s:List UInt8):Bool:=decide (s.length≤4) && (s == [] || (sizeM s == s.length) || goesM s)
def badF:Nat→Nat→List UInt8→Nat
 | 0,_,_=>0
 | f+1,n,r=>if n≤r.length then (if GoesM (r.take n)=true then badF f (n+1) r else n) else 0
def rbadM (l:List UInt8):Int :=
 if badF l.length 1 (l.drop (wholeM l))=0 then -1 else wholeM l+badF l.length 1 (l.drop (wholeM l)) - 1
theorem B_eq (e:Int) (x:UInt8) (h:0≤e∧e≤255):(B e=x)↔e=(x.toNat:Int):=by
 have hx:=x.toNat_lt
 have hb:(B e).toNat=e.toNat:=by
  unfold B
  rw [UInt8.toNat_ofNat']
  omega
 constructor
 ·intro he
  rw [←he,hb]
  omega
 ·intro he
  apply UInt8.toNat_inj.1
  rw [hb]
  omega
def ok2 (a b:Int):Prop:=194≤a∧a≤223∧128≤b∧b≤191
def ok3 (a b c:Int):Prop:=128≤c∧c≤191∧128≤b∧b≤191∧224≤a∧a≤239∧(a=224→160≤b)∧(a=237→b≤159)
def ok4 (a b c d:Int):Prop:=128≤d∧d≤191∧128≤c∧c≤191∧128≤b∧b≤191∧240≤a∧a≤244∧(a=240→144≤b)∧(a=244→b≤143)
theorem okM2_1 (x:UInt8) (r:List UInt8):okM2 1 (x :: r)=true↔(x.toNat:Int)≤127:=by
 have hx:=x.toNat_lt
 have hc:candM 1 (x :: r)=(x.toNat:Int):=rfl
 simp only [okM2,hc,rangeM,Bool.and_eq_true,decide_eq_true_eq,beq_iff_eq,List.take_succ_cons,List.take_zero]
 unfold putM
 by_cases h:(x.toNat:Int) < 128
 ·rw [if_pos h]
  have:=B_eq x.toNat x ⟨by omega,by omega⟩
  simp only [List.cons.injEq,and_true,this]
  omega
 ·rw [if_neg h,if_pos (by omega)]
  simp
  omega
theorem okM2_2 (x y:UInt8) (r:List UInt8):okM2 2 (x :: y :: r)=true↔ok2 x.toNat y.toNat:=by
 have hx:=x.toNat_lt
 have hy:=y.toNat_lt
 obtain ⟨c,hc⟩:∃ c,c=((x.toNat:Int) - 192) * 64+y.toNat - 128:=⟨_,rfl⟩
 have hcc:candM 2 (x :: y :: r)=c:=by rw [hc];rfl
 simp only [okM2,hcc,rangeM,Bool.and_eq_true,decide_eq_true_eq,beq_iff_eq,List.take_succ_cons,List.take_zero]
 unfold putM ok2
 by_cases h0:0≤c
 ·by_cases h:c < 128
  ·rw [if_pos h];simp;omega
  ·rw [if_neg h]
   by_cases h2:c < 2048
   ·rw [if_pos h2]
    have e1:=B_eq (192+c / 64) x ⟨by omega,by omega⟩
    have e2:=B_eq (128+c % 64) y ⟨by omega,by omega⟩
    simp only [List.cons.injEq,and_true,e1,e2]
    omega
   ·rw [if_neg h2]
    by_cases h3:c < 65536
    ·rw [if_pos h3];simp;omega
    ·rw [if_neg h3];simp;omega
 ·constructor
  ·intro hh;omega
  ·intro hh;omega
theorem okM2_3 (x y z:UInt8) (r:List UInt8):okM2 3 (x :: y :: z :: r)=true↔ok3 x.toNat y.toNat z.toNat:=by
 have hx:=x.toNat_lt
 have hy:=y.toNat_lt
 have hz:=z.toNat_lt
 obtain ⟨c,hc⟩:∃ c,c=((x.toNat:Int) - 224) * 4096+((y.toNat:Int) - 128) * 64+z.toNat - 128:=⟨_,rfl⟩
 have hcc:candM 3 (x :: y :: z :: r)=c:=by rw [hc];rfl
 simp only [okM2,hcc,rangeM,Bool.and_eq_true,decide_eq_true_eq,beq_iff_eq,List.take_succ_cons,List.take_zero]
 unfold putM ok3
 by_cases h0:0≤c
 ·by_cases h:c < 128
  ·rw [if_pos h];simp;omega
  ·rw [if_neg h]
   by_cases h2:c < 2048
   ·rw [if_pos h2];simp;omega
   ·rw [if_neg h2]
    by_cases h3:c < 65536
    ·rw [if_pos h3]
     have e1:=B_eq (224+c / 4096) x ⟨by omega,by omega⟩
     have e2:=B_eq (128+c / 64 % 64) y ⟨by omega,by omega⟩
     have e3:=B_eq (128+c % 64) z ⟨by omega,by omega⟩
     simp only [List.cons.injEq,and_true,e1,e2,e3]
     omega
    ·rw [if_neg h3];simp;omega
 ·constructor
  ·intro hh;omega
  ·intro hh;omega
theorem okM2_4 (x y z t:UInt8) (r:List UInt8):okM2 4 (x :: y :: z :: t :: r)=true↔ok4 x.toNat y.toNat z.toNat t.toNat:=by
 have hx:=x.toNat_lt
 have hy:=y.toNat_lt
 have hz:=z.toNat_lt
 have ht:=t.toNat_lt
 obtain ⟨c,hc⟩:∃ c,c=((x.toNat:Int) - 240) * 262144+((y.toNat:Int) - 128) * 4096+((z.toNat:Int) - 128) * 64+t.toNat - 128:=⟨_,rfl⟩
 have hcc:candM 4 (x :: y :: z :: t :: r)=c:=by rw [hc];rfl
 simp only [okM2,hcc,rangeM,Bool.and_eq_true,decide_eq_true_eq,beq_iff_eq,List.take_succ_cons,List.take_zero]
 unfold putM ok4
 by_cases h0:0≤c∧c≤1114111
 ·by_cases h:c < 128
  ·rw [if_pos h];simp;omega
  ·rw [if_neg h]
   by_cases h2:c < 2048
   ·rw [if_pos h2];simp;omega
   ·rw [if_neg h2]
    by_cases h3:c < 65536
    ·rw [if_pos h3];simp;omega
    ·rw [if_neg h3]
     have e1:=B_eq (240+c / 262144) x ⟨by omega,by omega⟩
     have e2:=B_eq (128+c / 4096 % 64) y ⟨by omega,by omega⟩
     have e3:=B_eq (128+c / 64 % 64) z ⟨by omega,by omega⟩
     have e4:=B_eq (128+c % 64) t ⟨by omega,by omega⟩
     simp only [List.cons.injEq,and_true,e1,e2,e3,e4]
     omega
 ·constructor
  ·intro hh;omega
  ·intro hh;omega
theorem sizeM_nil:sizeM []=0:=rfl
theorem sizeM_1 (x:UInt8) (r:List UInt8) (h:(x.toNat:Int)≤127):sizeM (x :: r)=1:=by
 unfold sizeM
 rw [sizeF,if_pos ⟨by omega,by simp⟩,if_pos ((okM2_1 x r).2 h)]
theorem step1 (x:UInt8) (r:List UInt8) (h:¬ (x.toNat:Int)≤127):sizeM (x :: r)=sizeF 4 2 (x :: r):=by
 unfold sizeM
 rw [sizeF,if_pos ⟨by omega,by simp⟩,if_neg (fun e=>h ((okM2_1 x r).1 e))]
theorem step2 (x y:UInt8) (r:List UInt8) (h:¬ ok2 x.toNat y.toNat):sizeF 4 2 (x :: y :: r)=sizeF 3 3 (x :: y :: r):=by
 rw [sizeF,if_pos ⟨by omega,by simp⟩,if_neg (fun e=>h ((okM2_2 x y r).1 e))]
theorem step3 (x y z:UInt8) (r:List UInt8) (h:¬ ok3 x.toNat y.toNat z.toNat):sizeF 3 3 (x :: y :: z :: r)=sizeF 2 4 (x :: y :: z :: r):=by
 rw [sizeF,if_pos ⟨by omega,by simp⟩,if_neg (fun e=>h ((okM2_3 x y z r).1 e))]
theorem sizeM_x (x:UInt8) (h:¬ (x.toNat:Int)≤127):sizeM [x]=0:=by rw [step1 x [] h];rfl
theorem sizeM_xy (x y:UInt8) (h:¬ (x.toNat:Int)≤127) (h2:¬ ok2 x.toNat y.toNat):sizeM [x,y]=0:=by rw [step1 x _ h,step2 x y _ h2];rfl
theorem sizeM_xyz (x y z:UInt8) (h:¬ (x.toNat:Int)≤127) (h2:¬ ok2 x.toNat y.toNat) (h3:¬ ok3 x.toNat y.toNat z.toNat):sizeM [x,y,z]=0:=by
 rw [step1 x _ h,step2 x y _ h2,step3 x y z _ h3];rfl
theorem sizeM_2 (x y:UInt8) (r:List UInt8) (h:¬ (x.toNat:Int)≤127) (h2:ok2 x.toNat y.toNat):sizeM (x :: y :: r)=2:=by
 rw [step1 x _ h,sizeF,if_pos ⟨by omega,by simp⟩,if_pos ((okM2_2 x y r).2 h2)]
theorem sizeM_3 (x y z:UInt8) (r:List UInt8) (h:¬ (x.toNat:Int)≤127) (h2:¬ ok2 x.toNat y.toNat) (h3:ok3 x.toNat y.toNat z.toNat):sizeM (x :: y :: z :: r)=3:=by
 rw [step1 x _ h,step2 x y _ h2,sizeF,if_pos ⟨by omega,by simp⟩,if_pos ((okM2_3 x y z r).2 h3)]
theorem sizeM_4 (x y z t:UInt8) (r:List UInt8) (h:¬ (x.toNat:Int)≤127) (h2:¬ ok2 x.toNat y.toNat) (h3:¬ ok3 x.toNat y.toNat z.toNat) (h4:ok4 x.toNat y.toNat z.toNat t.toNat):sizeM (x :: y :: z :: t :: r)=4:=by
 rw [step1 x _ h,step2 x y _ h2,step3 x y z _ h3,sizeF,if_pos ⟨by omega,by simp⟩,if_pos ((okM2_4 x y z t r).2 h4)]
theorem sizeM_no (x y z t:UInt8) (r:List UInt8) (h:¬ (x.toNat:Int)≤127) (h2:¬ ok2 x.toNat y.toNat) (h3:¬ ok3 x.toNat y.toNat z.toNat) (h4:¬ ok4 x.toNat y.toNat z.toNat t.toNat):sizeM (x :: y :: z :: t :: r)=0:=by
 rw [step1 x _ h,step2 x y _ h2,step3 x y z _ h3,sizeF,if_pos ⟨by omega,by simp⟩,if_neg (fun e=>h4 ((okM2_4 x y z t r).1 e)),sizeF,if_neg (by omega)]
structure Lead (x s lo hi k:Int):Prop where
 st:stepM 0 x=(s,true)
 nz:s≠0
 nx:∀ y,stepM s y=followM y lo hi k
 kk:k=0∨k=1∨k=2
 rg:128≤lo∧lo≤hi∧hi≤191
 o2:∀ y,ok2 x y↔k=0∧lo≤y∧y≤hi
 o3:∀ y z,ok3 x y z↔k=1∧(lo≤y∧y≤hi)∧128≤z∧z≤191
 o4:∀ y z t,ok4 x y z t↔k=2∧(lo≤y∧y≤hi)∧(128≤z∧z≤191)∧128≤t∧t≤191
 big:194≤x∧x≤244
theorem lead_of (x:Int) (h:194≤x∧x≤244):∃ s lo hi k,Lead x s lo hi k:=by
 have f:∀ (s lo hi k:Int),beginM x=(s,true)→s≠0→(∀ y,stepM s y=followM y lo hi k)→(k=0∨k=1∨k=2)→(128≤lo∧lo≤hi∧hi≤191) →
  (∀ y,ok2 x y↔k=0∧lo≤y∧y≤hi)→(∀ y z,ok3 x y z↔k=1∧(lo≤y∧y≤hi)∧128≤z∧z≤191)→(∀ y z t,ok4 x y z t↔k=2∧(lo≤y∧y≤hi)∧(128≤z∧z≤191)∧128≤t∧t≤191)→∃ s lo hi k,Lead x s lo hi k :=
  fun s lo hi k h1 h2 h3 h4 h5 h6 h7 h8=>⟨s,lo,hi,k,⟨by simpa [stepM] using h1,h2,h3,h4,h5,h6,h7,h8,h⟩⟩
 by_cases h1:x≤223
 ·refine f 1 128 191 0 (by unfold beginM;simp (disch:=omega) only [if_pos,if_neg]) (by omega) (fun y=>rfl) (by omega) (by omega) ?_ ?_ ?_<;>intros<;>simp only [ok2,ok3,ok4,true_and,false_and,iff_false]<;>omega
 by_cases h2:x=224
 ·refine f 4 160 191 1 (by unfold beginM;simp (disch:=omega) only [if_pos,if_neg]) (by omega) (fun y=>rfl) (by omega) (by omega) ?_ ?_ ?_<;>intros<;>simp only [ok2,ok3,ok4,true_and,false_and,iff_false]<;>omega
 by_cases h3:x=237
 ·refine f 5 128 159 1 (by unfold beginM;simp (disch:=omega) only [if_pos,if_neg]) (by omega) (fun y=>rfl) (by omega) (by omega) ?_ ?_ ?_<;>intros<;>simp only [ok2,ok3,ok4,true_and,false_and,iff_false]<;>omega
 by_cases h4:x≤239
 ·refine f 2 128 191 1 (by unfold beginM;simp (disch:=omega) only [if_pos,if_neg]) (by omega) (fun y=>rfl) (by omega) (by omega) ?_ ?_ ?_<;>intros<;>simp only [ok2,ok3,ok4,true_and,false_and,iff_false]<;>omega
 by_cases h5:x=240
 ·refine f 6 144 191 2 (by unfold beginM;simp (disch:=omega) only [if_pos,if_neg]) (by omega) (fun y=>rfl) (by omega) (by omega) ?_ ?_ ?_<;>intros<;>simp only [ok2,ok3,ok4,true_and,false_and,iff_false]<;>omega
 by_cases h6:x≤243
 ·refine f 3 128 191 2 (by unfold beginM;simp (disch:=omega) only [if_pos,if_neg]) (by omega) (fun y=>rfl) (by omega) (by omega) ?_ ?_ ?_<;>intros<;>simp only [ok2,ok3,ok4,true_and,false_and,iff_false]<;>omega
 ·refine f 7 128 143 2 (by unfold beginM;simp (disch:=omega) only [if_pos,if_neg]) (by omega) (fun y=>rfl) (by omega) (by omega) ?_ ?_ ?_<;>intros<;>simp only [ok2,ok3,ok4,true_and,false_and,iff_false]<;>omega
theorem nolead (x:Int) (h0:127 < x) (h1:¬ (194≤x∧x≤244)):stepM 0 x=(0,false):=by
 have:beginM x=(0,false):=by
  unfold beginM
  by_cases h:x < 194
  ·simp (disch:=omega) only [if_pos,if_neg]
  ·simp (disch:=omega) only [if_pos,if_neg]
 simpa [stepM] using this
theorem ascii (x:Int) (h:x≤127):stepM 0 x=(0,true):=by
 have:beginM x=(0,true):=by unfold beginM;rw [if_pos h]
 simpa [stepM] using this
theorem fol_y {y lo hi k:Int} (h:lo≤y∧y≤hi):followM y lo hi k=(k,true):=by unfold followM;rw [if_neg (by omega)]
theorem fol_n {y lo hi k:Int} (h:¬ (lo≤y∧y≤hi)):followM y lo hi k=(0,false):=by unfold followM;rw [if_pos (by omega)]
theorem st1 (y:Int):stepM 1 y=followM y 128 191 0:=rfl
theorem st2 (y:Int):stepM 2 y=followM y 128 191 1:=rfl
theorem run_y {st:Int} {b:UInt8} {l:List UInt8} {s:Int} (h:stepM st b.toNat=(s,true)):runM st (b :: l)=((runM s l).1,(runM s l).2+1):=by simp [runM,h]
theorem run_n {st:Int} {b:UInt8} {l:List UInt8} {s:Int} (h:stepM st b.toNat=(s,false)):runM st (b :: l)=(st,0):=by simp [runM,h]
theorem run_nil (st:Int):runM st []=(st,0):=rfl
theorem long_y {st:Int} {b:UInt8} {l:List UInt8} {s:Int} {best i:Nat} (h:stepM st b.toNat=(s,true)):longM st best i (b :: l)=longM s (if s=0 then i+1 else best) (i+1) l:=by simp [longM,h]
theorem long_n {st:Int} {b:UInt8} {l:List UInt8} {s:Int} {best i:Nat} (h:stepM st b.toNat=(s,false)):longM st best i (b :: l)=best:=by simp [longM,h]
theorem u8i (n:Int) (h:0≤n∧n≤255):(((B n).toNat:Nat):Int)=n:=by
 unfold B;rw [UInt8.toNat_ofNat'];omega
theorem size_lead {x y z t:UInt8} {s lo hi k:Int} (L:Lead x.toNat s lo hi k) (hy:lo≤y.toNat∧(y.toNat:Int)≤hi) (hz:128≤(z.toNat:Int)∧(z.toNat:Int)≤191) (ht:128≤(t.toNat:Int)∧(t.toNat:Int)≤191) (r:List UInt8) :
 (sizeM (x :: y :: z :: t :: r):Int)=k+2:=by
 have hx:¬ (x.toNat:Int)≤127:=by have:=L.big;omega
 rcases L.kk with rfl|rfl|rfl
 ·rw [sizeM_2 x y _ hx ((L.o2 _).2 ⟨rfl,hy⟩)];rfl
 ·rw [sizeM_3 x y z _ hx (fun e=>by have:=((L.o2 _).1 e).1;omega) ((L.o3 _ _).2 ⟨rfl,hy,hz⟩)];rfl
 ·rw [sizeM_4 x y z t _ hx (fun e=>by have:=((L.o2 _).1 e).1;omega) (fun e=>by have:=((L.o3 _ _).1 e).1;omega) ((L.o4 _ _ _).2 ⟨rfl,hy,hz,ht⟩)];rfl
theorem Goes_t {u:List UInt8} {a b:Nat} (h4:u.length≤4) (ha:a < 64) (hb:b < goesW u) (h:u.length≤sizeM (u++[B (128+a),B (128+b),128])) (h0:0 < sizeM (u++[B (128+a),B (128+b),128])):GoesM u=true:=by
 have:goesM u=true:=goesM_true ha hb (decide_eq_true ⟨h,h0⟩)
 simp [GoesM,this,h4]
theorem Goes_f {u:List UInt8} (hne:u≠[]) (hs:sizeM u≠u.length) (h:∀ e1 e2:UInt8,sizeM (u++[e1,e2,128])=0):GoesM u=false:=by
 have:goesM u=false:=goesM_false fun a _ b _=>decide_eq_false (by rw [h];omega)
 simp [GoesM,this,hne,hs]
theorem c128:128≤(((128:UInt8).toNat:Nat):Int)∧(((128:UInt8).toNat:Nat):Int)≤191:=by decide
theorem cB0:128≤(((B (128+(0:Nat))).toNat:Nat):Int)∧(((B (128+(0:Nat))).toNat:Nat):Int)≤191:=by decide
theorem goes1 {x:UInt8} {s lo hi k:Int} (L:Lead x.toNat s lo hi k):GoesM [x]=true:=by
 have hr:=L.rg
 have hb:(((B (128+((lo - 128).toNat:Nat))).toNat:Nat):Int)=lo:=by rw [u8i _ (by omega)];omega
 have:=size_lead L (y:=B (128+((lo - 128).toNat:Nat))) (z:=B (128+(0:Nat))) (t:=128) (by rw [hb];omega) cB0 c128 []
 have hk:=L.kk
 exact Goes_t (a:=(lo - 128).toNat) (b:=0) (by simp) (by omega) (by simp [goesW]) (by simp only [List.length_cons,List.length_nil,List.cons_append,List.nil_append];omega) (by simp only [List.cons_append,List.nil_append];omega)
theorem goes2 {x y:UInt8} {s lo hi k:Int} (L:Lead x.toNat s lo hi k) (hy:lo≤y.toNat∧(y.toNat:Int)≤hi):GoesM [x,y]=true:=by
 have:=size_lead L hy (z:=B (128+(0:Nat))) (t:=B (128+(0:Nat))) cB0 cB0 [128]
 have hk:=L.kk
 exact Goes_t (a:=0) (b:=0) (by simp) (by omega) (by simp [goesW]) (by simp only [List.length_cons,List.length_nil,List.cons_append,List.nil_append];omega) (by simp only [List.cons_append,List.nil_append];omega)
theorem goes3 {x y z:UInt8} {s lo hi:Int} (L:Lead x.toNat s lo hi 2) (hy:lo≤y.toNat∧(y.toNat:Int)≤hi) (hz:128≤(z.toNat:Int)∧(z.toNat:Int)≤191):GoesM [x,y,z]=true:=by
 have:=size_lead L hy hz (t:=B (128+(0:Nat))) cB0 [B (128+(0:Nat)),128]
 exact Goes_t (a:=0) (b:=0) (by simp) (by omega) (by simp [goesW]) (by simp only [List.length_cons,List.length_nil,List.cons_append,List.nil_append];omega) (by simp only [List.cons_append,List.nil_append];omega)
theorem goes0 {x:UInt8} (h0:127 < (x.toNat:Int)) (h1:¬ (194≤(x.toNat:Int)∧(x.toNat:Int)≤244)):GoesM [x]=false:=by
 refine Goes_f (by simp) (by rw [sizeM_x x (by omega)];simp) fun e1 e2=>?_
 exact sizeM_no x e1 e2 128 [] (by omega) (by unfold ok2;omega) (by unfold ok3;omega) (by unfold ok4;omega)
theorem goes2f {x y:UInt8} {s lo hi k:Int} (L:Lead x.toNat s lo hi k) (hy:¬ (lo≤y.toNat∧(y.toNat:Int)≤hi)):GoesM [x,y]=false:=by
 have hx:¬ (x.toNat:Int)≤127:=by have:=L.big;omega
 refine Goes_f (by simp) (by rw [sizeM_xy x y hx (fun e=>hy ((L.o2 _).1 e).2)];simp) fun e1 e2=>?_
 exact sizeM_no x y e1 e2 [128] hx (fun e=>hy ((L.o2 _).1 e).2) (fun e=>hy ((L.o3 _ _).1 e).2.1) (fun e=>hy ((L.o4 _ _ _).1 e).2.1)
theorem goes3f {x y z:UInt8} {s lo hi k:Int} (L:Lead x.toNat s lo hi k) (hk:k≠0) (hz:¬ (128≤(z.toNat:Int)∧(z.toNat:Int)≤191)):GoesM [x,y,z]=false:=by
 have hx:¬ (x.toNat:Int)≤127:=by have:=L.big;omega
 refine Goes_f (by simp) (by rw [sizeM_xyz x y z hx (fun e=>hk ((L.o2 _).1 e).1) (fun e=>hz ((L.o3 _ _).1 e).2.2)];simp) fun e1 e2=>?_
 exact sizeM_no x y z e1 [e2,128] hx (fun e=>hk ((L.o2 _).1 e).1) (fun e=>hz ((L.o3 _ _).1 e).2.2) (fun e=>hz ((L.o4 _ _ _).1 e).2.2.1)
theorem goes4f {x y z t:UInt8} {s lo hi:Int} (L:Lead x.toNat s lo hi 2) (ht:¬ (128≤(t.toNat:Int)∧(t.toNat:Int)≤191)):GoesM [x,y,z,t]=false:=by
 have hx:¬ (x.toNat:Int)≤127:=by have:=L.big;omega
 have n2:¬ ok2 x.toNat y.toNat:=fun e=>by have:=((L.o2 _).1 e).1;omega
 have n3:¬ ok3 x.toNat y.toNat z.toNat:=fun e=>by have:=((L.o3 _ _).1 e).1;omega
 have n4:¬ ok4 x.toNat y.toNat z.toNat t.toNat:=fun e=>ht ((L.o4 _ _ _).1 e).2.2.2
 refine Goes_f (by simp) (by rw [sizeM_no x y z t [] hx n2 n3 n4];simp) fun e1 e2=>?_
 exact sizeM_no x y z t [e1,e2,128] hx n2 n3 n4
structure Dead (r:List UInt8) (m:Nat):Prop where
 run:(runM 0 r).2=m
 le:m≤r.length
 yes:∀ n,1≤n→n≤m→GoesM (r.take n)=true
 no:m < r.length→GoesM (r.take (m+1))=false
 st:m=r.length→(runM 0 r).1≠0
 lng:∀ best i,longM 0 best i r=best
theorem dead_of (r : List UInt8) (hne:r≠[]) (h:sizeM r=0):∃ m,Dead r m:=by
 match r,hne with
 | x :: r, _ =>
   have hxx:=x.toNat_lt
   have hx:¬ (x.toNat:Int)≤127:=fun e=>by rw [sizeM_1 x r e] at h;cases h
   by_cases hl:194≤(x.toNat:Int)∧(x.toNat:Int)≤244
   ·obtain ⟨s, lo,hi,k,L⟩:=lead_of _ hl
    have y1:∀ (q:List UInt8) (n:Nat),1≤n→n≤1→GoesM ((x :: q).take n)=true:=fun q n h1 h2=>by
     obtain rfl:n=1:=by omega
     exact goes1 L
    match r with
    | []=>exact ⟨1,⟨by rw [run_y L.st];rfl,by simp,y1 _,by simp,fun _=>by rw [run_y L.st];exact L.nz,fun b i=>by rw [long_y L.st,if_neg L.nz];rfl⟩⟩
    | y :: r =>
      by_cases hy:lo≤(y.toNat:Int)∧(y.toNat:Int)≤hi
      ·have sy : stepM s y.toNat=(k,true):=by rw [L.nx,fol_y hy]
       have hk:k≠0:=fun e=>by rw [sizeM_2 x y r hx ((L.o2 _).2 ⟨e,hy⟩)] at h;cases h
       have y12:∀ n,1≤n→n≤2→GoesM ((x :: y :: r).take n)=true:=fun n h1 h2=>by
        obtain rfl|rfl:n=1∨n=2:=by omega
        ·exact goes1 L
        ·exact goes2 L hy
       match r with
       | []=>exact ⟨2,⟨by rw [run_y L.st,run_y sy];rfl,by simp,y12,by simp,fun _=>by rw [run_y L.st,run_y sy];exact hk,fun b i=>by rw [long_y L.st,if_neg L.nz,long_y sy,if_neg hk];rfl⟩⟩
       | z :: r =>
         by_cases hz:128≤(z.toNat:Int)∧(z.toNat:Int)≤191
         ·have hk2:k=2:=by
           rcases L.kk with e|e|e
           ·exact absurd e hk
           ·rw [sizeM_3 x y z r hx (fun e2=>hk ((L.o2 _).1 e2).1) ((L.o3 _ _).2 ⟨e,hy,hz⟩)] at h;cases h
           ·exact e
          subst hk2
          have sz:stepM 2 z.toNat=(1,true):=by rw [st2,fol_y hz]
          have y123:∀ n,1≤n→n≤3→GoesM ((x :: y :: z :: r).take n)=true:=fun n h1 h2=>by
           obtain h3|rfl:n≤2∨n=3:=by omega
           ·exact y12 n h1 h3
           ·exact goes3 L hy hz
          match r with
          | []=>exact ⟨3,⟨by rw [run_y L.st,run_y sy,run_y sz];rfl,by simp,y123,by simp,fun _=>by rw [run_y L.st,run_y sy,run_y sz];simp [runM],fun b i=>by rw [long_y L.st,if_neg L.nz,long_y sy,if_neg hk,long_y sz];rfl⟩⟩
          | t :: r =>
            have ht:¬ (128≤(t.toNat:Int)∧(t.toNat:Int)≤191):=fun ht=>by
             rw [sizeM_4 x y z t r hx (fun e=>by have:=((L.o2 _).1 e).1;omega) (fun e=>by have:=((L.o3 _ _).1 e).1;omega) ((L.o4 _ _ _).2 ⟨rfl,hy,hz,ht⟩)] at h;cases h
            have sn:stepM 1 t.toNat=(0,false):=by rw [st1,fol_n ht]
            exact ⟨3,⟨by rw [run_y L.st,run_y sy,run_y sz,run_n sn],by simp,y123,fun _=>goes4f L ht,fun e=>by simp at e,fun b i=>by rw [long_y L.st,if_neg L.nz,long_y sy,if_neg hk,long_y sz,long_n sn];rfl⟩⟩
         ·have sn:stepM k z.toNat=(0,false):=by
           rcases L.kk with e|e|e
           ·exact absurd e hk
           ·rw [e,st1,fol_n hz]
           ·rw [e,st2,fol_n hz]
          exact ⟨2,⟨by rw [run_y L.st,run_y sy,run_n sn],by simp,y12,fun _=>goes3f L hk hz,fun e=>by simp at e,fun b i=>by rw [long_y L.st,if_neg L.nz,long_y sy,if_neg hk,long_n sn]⟩⟩
      ·have sn:stepM s y.toNat=(0,false):=by rw [L.nx,fol_n hy]
       exact ⟨1,⟨by rw [run_y L.st,run_n sn],by simp,y1 _,fun _=>goes2f L hy,fun e=>by simp at e,fun b i=>by rw [long_y L.st,if_neg L.nz,long_n sn]⟩⟩
   ·have sn:=nolead x.toNat (by omega) hl
    exact ⟨0,⟨by rw [run_n sn],by simp,fun n h1 h2=>by omega,fun _=>goes0 (by omega) hl,fun e=>by simp at e,fun b i=>by rw [long_n sn]⟩⟩
structure Alive (r:List UInt8) (n:Nat):Prop where
 r1:(runM 0 r).1=(runM 0 (r.drop n)).1
 r2:(runM 0 r).2=n+(runM 0 (r.drop n)).2
 lng:∀ best i,longM 0 best i r=longM 0 (i+n) (i+n) (r.drop n)
theorem alive_of (r : List UInt8) (h:0 < sizeM r):Alive r (sizeM r):=by
 match r with
 | []=>rw [sizeM_nil] at h;omega
 | x :: r =>
   have hxx:=x.toNat_lt
   by_cases hx:(x.toNat:Int)≤127
   ·rw [sizeM_1 x r hx]
    have sx:=ascii x.toNat hx
    exact ⟨by rw [run_y sx];rfl,by rw [run_y sx];simp only [List.drop_succ_cons,List.drop_zero];omega,fun b i=>by rw [long_y sx,if_pos rfl];rfl⟩
   by_cases hl:194≤(x.toNat:Int)∧(x.toNat:Int)≤244
   ·obtain ⟨s, lo, hi,k,L⟩:=lead_of _ hl
    match r with
    | []=>rw [sizeM_x x hx] at h;omega
    | y :: r =>
      by_cases hy:lo≤(y.toNat:Int)∧(y.toNat:Int)≤hi
      ·have sy : stepM s y.toNat=(k,true):=by rw [L.nx,fol_y hy]
       by_cases hk:k=0
       ·subst hk
        rw [sizeM_2 x y r hx ((L.o2 _).2 ⟨rfl,hy⟩)]
        exact ⟨by rw [run_y L.st,run_y sy];rfl,by rw [run_y L.st,run_y sy];simp only [List.drop_succ_cons,List.drop_zero];omega,fun b i=>by rw [long_y L.st,if_neg L.nz,long_y sy,if_pos rfl];rfl⟩
       ·have n2 : ¬ ok2 x.toNat y.toNat:=fun e=>hk ((L.o2 _).1 e).1
        match r with
        | []=>rw [sizeM_xy x y hx n2] at h;omega
        | z :: r =>
          by_cases hz:128≤(z.toNat:Int)∧(z.toNat:Int)≤191
          ·rcases L.kk with e|e|e
           ·exact absurd e hk
           ·subst e
            have sz:stepM 1 z.toNat=(0,true):=by rw [st1,fol_y hz]
            rw [sizeM_3 x y z r hx n2 ((L.o3 _ _).2 ⟨rfl,hy,hz⟩)]
            exact ⟨by rw [run_y L.st,run_y sy,run_y sz];rfl,by rw [run_y L.st,run_y sy,run_y sz];simp only [List.drop_succ_cons,List.drop_zero];omega,fun b i=>by rw [long_y L.st,if_neg L.nz,long_y sy,if_neg hk,long_y sz,if_pos rfl];rfl⟩
           ·subst e
            have n3:¬ ok3 x.toNat y.toNat z.toNat:=fun e=>by have:=((L.o3 _ _).1 e).1;omega
            have sz:stepM 2 z.toNat=(1,true):=by rw [st2,fol_y hz]
            match r with
            | []=>rw [sizeM_xyz x y z hx n2 n3] at h;omega
            | t :: r =>
              by_cases ht:128≤(t.toNat:Int)∧(t.toNat:Int)≤191
              ·have st:stepM 1 t.toNat=(0,true):=by rw [st1,fol_y ht]
               rw [sizeM_4 x y z t r hx n2 n3 ((L.o4 _ _ _).2 ⟨rfl,hy,hz,ht⟩)]
               exact ⟨by rw [run_y L.st,run_y sy,run_y sz,run_y st];rfl,by rw [run_y L.st,run_y sy,run_y sz,run_y st];simp only [List.drop_succ_cons,List.drop_zero];omega,fun b i=>by rw [long_y L.st,if_neg L.nz,long_y sy,if_neg hk,long_y sz,if_neg (by omega),long_y st,if_pos rfl];rfl⟩
              ·rw [sizeM_no x y z t r hx n2 n3 (fun e=>ht ((L.o4 _ _ _).1 e).2.2.2)] at h;omega
          ·have n3:¬ ok3 x.toNat y.toNat z.toNat:=fun e=>hz ((L.o3 _ _).1 e).2.2
           match r with
           | []=>rw [sizeM_xyz x y z hx n2 n3] at h;omega
           | t :: r=>rw [sizeM_no x y z t r hx n2 n3 (fun e=>hz ((L.o4 _ _ _).1 e).2.2.1)] at h;omega
      ·have n2:¬ ok2 x.toNat y.toNat:=fun e=>hy ((L.o2 _).1 e).2
       match r with
       | []=>rw [sizeM_xy x y hx n2] at h;omega
       | z :: r =>
         have n3:¬ ok3 x.toNat y.toNat z.toNat:=fun e=>hy ((L.o3 _ _).1 e).2.1
         match r with
         | []=>rw [sizeM_xyz x y z hx n2 n3] at h;omega
         | t :: r=>rw [sizeM_no x y z t r hx n2 n3 (fun e=>hy ((L.o4 _ _ _).1 e).2.1)] at h;omega
   ·exfalso
    have n2:∀ y,¬ ok2 x.toNat y:=fun y e=>by unfold ok2 at e;omega
    have n3:∀ y z,¬ ok3 x.toNat y z:=fun y z e=>by unfold ok3 at e;omega
    have n4:∀ y z t,¬ ok4 x.toNat y z t:=fun y z t e=>by unfold ok4 at e;omega
    match r with
    | []=>rw [sizeM_x x hx] at h;omega
    | [y]=>rw [sizeM_xy x y hx (n2 _)] at h;omega
    | [y,z]=>rw [sizeM_xyz x y z hx (n2 _) (n3 _ _)] at h;omega
    | y :: z :: t :: r=>rw [sizeM_no x y z t r hx (n2 _) (n3 _ _) (n4 _ _ _)] at h;omega
theorem run_app (b:List UInt8):∀ (a:List UInt8) (st:Int),runM st (a++b)=if (runM st a).2 < a.length then runM st a else ((runM (runM st a).1 b).1,a.length+(runM (runM st a).1 b).2):=by
 intro a
 induction a with
 | nil=>intro st;simp [runM]
 | cons x a ih =>
   intro st
   rcases hq:stepM st x.toNat with ⟨s,ok⟩
   cases ok with
   | true =>
     rw [List.cons_append,run_y hq,run_y hq,ih]
     by_cases h:(runM s a).2 < a.length
     ·rw [if_pos h,if_pos (by simpa using h)]
     ·rw [if_neg h,if_neg (by simpa using h)]
      simp only [List.length_cons]
      congr 1
      omega
   | false=>rw [List.cons_append,run_n hq,run_n hq];simp
theorem whole_run:∀ (n:Nat) (l:List UInt8),l.length≤n→(runM 0 l).1=(runM 0 (l.drop (wholeM l))).1∧(runM 0 l).2=wholeM l+(runM 0 (l.drop (wholeM l))).2∧sizeM (l.drop (wholeM l))=0∧∀ i,longM 0 i i l=i+wholeM l:=by
 intro n
 induction n with
 | zero =>
   intro l h
   obtain rfl:l=[]:=List.length_eq_zero_iff.1 (by omega)
   rw [wholeM_no [] (by simp)]
   exact ⟨rfl,rfl,rfl,fun i=>rfl⟩
 | succ n ih =>
   intro l h
   by_cases hh:l≠[]∧0 < sizeM l
   ·have A:=alive_of l hh.2
    obtain ⟨i1,i2,i3,i4⟩:=ih (l.drop (sizeM l)) (by simp;omega)
    rw [wholeM_yes l hh.1 hh.2,←List.drop_drop]
    exact ⟨by rw [A.r1,i1],by rw [A.r2,i2];omega,i3,fun i=>by rw [A.lng,i4];omega⟩
   ·rw [wholeM_no l hh]
    by_cases hl:l=[]
    ·subst hl;exact ⟨rfl,rfl,rfl,fun i=>rfl⟩
    ·have h0:sizeM l=0:=by
      rcases Nat.eq_zero_or_pos (sizeM l) with e|e
      ·exact e
      ·exact absurd ⟨hl,e⟩ hh
     obtain ⟨m,D⟩:=dead_of l hl h0
     exact ⟨rfl,by simp,h0,fun i=>D.lng i i⟩
theorem badF_no (r:List UInt8) (m:Nat) (hy:∀ n,1≤n→n≤m→GoesM (r.take n)=true) (hn:GoesM (r.take (m+1))=false) (hm:m < r.length):∀ (f n:Nat),1≤n→n≤m+1→m+2≤f+n→badF f n r=m+1:=by
 intro f
 induction f with
 | zero=>intro n h1 h2 h3;omega
 | succ f ih =>
   intro n h1 h2 h3
   rw [badF,if_pos (by omega)]
   by_cases e:n=m+1
   ·subst e;rw [if_neg (by rw [hn];simp)]
   ·rw [if_pos (hy n h1 (by omega))]
    exact ih (n+1) (by omega) (by omega) (by omega)
theorem badF_yes (r:List UInt8) (hy:∀ n,1≤n→n≤r.length→GoesM (r.take n)=true):∀ (f n:Nat),1≤n→badF f n r=0:=by
 intro f
 induction f with
 | zero=>intro n _;rfl
 | succ f ih =>
   intro n h1
   rw [badF]
   split
   ·rename_i h
    rw [if_pos (hy n h1 h)]
    exact ih (n+1) (by omega)
   ·rfl
theorem bads (s:List UInt8):badM s=(if 0≤rbadM s then (3,rbadM s) else if wholeM s < s.length then (12,(s.length:Int)) else (0,0))∧validM s=(wholeM s == s.length)∧longM 0 0 0 s=wholeM s:=by
 obtain ⟨h1,h2,h3,h4⟩:=whole_run _ s (Nat.le_refl _)
 have hle:=wholeM_le _ s (Nat.le_refl _)
 have hlen:(s.drop (wholeM s)).length=s.length - wholeM s:=by simp
 have hlong:longM 0 0 0 s=wholeM s:=by rw [h4 0];omega
 by_cases hr:s.drop (wholeM s)=[]
 ·have hw:wholeM s=s.length:=by rw [hr] at hlen;simp at hlen;omega
  rw [hr] at h1 h2
  have e1:(runM 0 s).1=0:=h1
  have e2:(runM 0 s).2=s.length:=by rw [h2,hw];rfl
  have e3:rbadM s=-1:=by
   unfold rbadM
   rw [hr,badF_yes [] (fun n h1 h2=>by simp at h2;omega) _ 1 (Nat.le_refl _)];rfl
  refine ⟨?_,?_,hlong⟩
  ·rw [e3,badM,e1,e2,if_neg (by omega),if_neg (by simp),if_neg (by omega),if_neg (by omega)]
  ·simp [validM,e1,e2,hw]
 ·obtain ⟨m,D⟩:=dead_of _ hr h3
  have hpos:0 < s.length - wholeM s:=by rw [←hlen];exact List.length_pos_iff.2 hr
  have e2:(runM 0 s).2=wholeM s+m:=by rw [h2,D.run]
  have hml:=D.le
  rw [hlen] at hml
  have hv:validM s=(wholeM s == s.length):=by
   have:(wholeM s == s.length)=false:=by simp;omega
   rw [this]
   simp only [validM,e2,Bool.and_eq_false_iff,beq_eq_false_iff_ne,ne_eq]
   by_cases e:m=s.length - wholeM s
   ·right;rw [h1];exact D.st (by rw [hlen];exact e)
   ·left;omega
  refine ⟨?_,hv,hlong⟩
  by_cases e:m=s.length - wholeM s
  ·have e3:rbadM s=-1:=by
    unfold rbadM
    rw [badF_yes _ (fun n a b=>D.yes n a (by rw [hlen] at b;omega)) _ 1 (Nat.le_refl _)];rfl
   have e1:(runM 0 s).1≠0:=by rw [h1];exact D.st (by rw [hlen];exact e)
   rw [e3,badM,e2,if_neg (by omega),if_pos e1,if_neg (by omega),if_pos (by omega)]
   congr 1
   omega
  ·have e3:rbadM s=wholeM s+m:=by
    unfold rbadM
    rw [badF_no _ m D.yes (D.no (by rw [hlen];omega)) (by rw [hlen];omega) _ 1 (Nat.le_refl _) (by omega) (by omega),if_neg (by omega)]
    omega
   rw [e3,badM,e2,if_pos (by omega),if_pos (by omega)]
   congr 1
theorem valid_run {a:List UInt8} (h:validM a=true):(runM 0 a).2=a.length∧(runM 0 a).1=0:=by simpa [validM] using h
theorem long_shift (b:List UInt8) (d:Nat):∀ (st:Int) (best i:Nat),longM st (d+best) (d+i) b=d+longM st best i b:=by
 induction b with
 | nil=>intro st best i;rfl
 | cons x b ih =>
   intro st best i
   rcases hq:stepM st x.toNat with ⟨s,ok⟩
   cases ok with
   | true =>
     rw [long_y hq,long_y hq,←ih]
     by_cases e:s=0
     ·rw [if_pos e,if_pos e];congr 1
     ·rw [if_neg e,if_neg e];congr 1
   | false=>rw [long_n hq,long_n hq]
theorem long_app (b:List UInt8):∀ (a:List UInt8) (st:Int) (best i:Nat),(runM st a).2=a.length→longM st best i (a++b)=longM (runM st a).1 (longM st best i a) (i+a.length) b:=by
 intro a
 induction a with
 | nil=>intro st best i _;rfl
 | cons x a ih =>
   intro st best i h
   rcases hq:stepM st x.toNat with ⟨s,ok⟩
   cases ok with
   | true =>
     rw [run_y hq] at h
     simp only [List.length_cons] at h
     rw [List.cons_append,long_y hq,long_y hq,run_y hq,ih s _ _ (by omega)]
     simp only [List.length_cons]
     congr 1
     omega
   | false=>rw [run_n hq] at h;simp at h
theorem valid_app (a b:List UInt8) (h:validM a=true):validM (a++b)=validM b∧longM 0 0 0 (a++b)=a.length+longM 0 0 0 b:=by
 obtain ⟨h1,h2⟩:=valid_run h
 have hr:=run_app b a 0
 rw [if_neg (by omega),h2] at hr
 have hla:longM 0 0 0 a=a.length:=by
  have:=(bads a).2
  rw [this.2]
  have hv:=this.1
  rw [h] at hv
  simpa using hv.symm
 constructor
 ·simp only [validM,hr,List.length_append]
  congr 1
  rw [Bool.eq_iff_iff]
  simp only [beq_iff_eq]
  omega
 ·rw [long_app b a 0 0 0 h1,h2,hla]
  have:=long_shift b a.length 0 0 0
  simpa using this
structure Val where
 kind:Int
 s:List UInt8
 n:Int
 b:Bool
instance : Inhabited Val := ⟨⟨0, [], 0, false⟩⟩
theorem val_ext {a b:Val} (h1:a.kind=b.kind) (h2:a.s=b.s) (h3:a.n=b.n) (h4:a.b=b.b):a=b:=by cases a;cases b;simp_all
def rightM (v:Val):Bool:=decide (0≤v.kind∧v.kind≤3∧(v.kind=1∨v.s=[])∧(v.kind=2∨v.n=0)∧(v.kind=3∨v.b=false)) && validM v.s
def mkdM (s:List UInt8):Bool:=decide (s=[]∨s.take 1=[92])
def encM (v:Val) (k:Int) (nl:Bool):List UInt8×Int :=
 if ¬ (1≤k∧k≤3) then ([],22) else if ¬ (rightM v=true∧(v.kind=0∨v.kind=k)) then ([],21) else if v.kind=0 then (if nl=true then ([],0) else ([],20))
 else if v.kind=2 then (Lib.itoa v.n,0) else if v.kind=3 then ((if v.b=true then [116,114,117,101] else [102,97,108,115,101]),0)
 else if nl=true∧mkdM v.s=true then (92 :: v.s,0) else (v.s,0)
def decV (l:List UInt8):Nat:=l.foldl (fun a b=>a * 10+(b.toNat - 48)) 0
theorem decV_app (l:List UInt8) (b:UInt8):decV (l++[b])=decV l * 10+(b.toNat - 48):=by simp [decV]
theorem dig_nat {d:Nat} (h:d < 10):(UInt8.ofNat (48+d)).toNat - 48=d:=by
 rw [UInt8.toNat_ofNat'];omega
theorem decV_dec:∀ (n u:Nat),u≤n→decV (Lib.decDigits u)=u:=by
 intro n
 induction n with
 | zero =>
   intro u hu
   have:u=0:=by omega
   subst this
   rw [Lib.decDigits,dif_pos (by omega)];rfl
 | succ n ih =>
   intro u hu
   rw [Lib.decDigits]
   by_cases h:u < 10
   ·rw [dif_pos h]
    have:=dig_nat h
    simp only [decV,List.foldl_cons,List.foldl_nil];omega
   ·rw [dif_neg h,decV_app,ih (u / 10) (by omega),dig_nat (by omega)];omega
theorem dec_head (u:Nat):∀ n,u≤n→∃ d r,d < 10∧Lib.decDigits u=UInt8.ofNat (48+d) :: r:=by
 intro n
 induction n generalizing u with
 | zero =>
   intro hu
   have:u=0:=by omega
   subst this
   exact ⟨0,[],by omega,by rw [Lib.decDigits,dif_pos (by omega)]⟩
 | succ n ih =>
   intro hu
   rw [Lib.decDigits]
   by_cases h:u < 10
   ·rw [dif_pos h];exact ⟨u,[],h,rfl⟩
   ·rw [dif_neg h]
    obtain ⟨d,r,hd,e⟩:=ih (u / 10) (by omega)
    rw [e]
    exact ⟨d,_,hd,rfl⟩
theorem dig_ne {d:Nat} (h:d < 10):UInt8.ofNat (48+d)≠45:=by
 intro e
 have:=congrArg UInt8.toNat e
 rw [UInt8.toNat_ofNat'] at this
 have h2:(45:UInt8).toNat=45:=rfl
 omega
theorem right_of {v:Val} (h:rightM v=true):(0≤v.kind∧v.kind≤3∧(v.kind=1∨v.s=[])∧(v.kind=2∨v.n=0)∧(v.kind=3∨v.b=false))∧validM v.s=true:=by
 simpa [rightM] using h
structure OrdC {α:Type} (c:α→α→Int):Prop where
 val:∀ a b,c a b=-1∨c a b=0∨c a b=1
 anti:∀ a b,c b a=- c a b
 zero:∀ a b,c a b=0↔a=b
 tr:∀ a b d,c a b≤0→c b d≤0→c a d≤0
def cmpI (a b:Int):Int:=if a < b then -1 else if b < a then 1 else 0
def cmpS (a b:List UInt8):Int:=if Op.bytesLess a b=true then -1 else if Op.bytesLess b a=true then 1 else 0
theorem ordI:OrdC cmpI where
 val a b:=by unfold cmpI;split<;>(try split)<;>simp
 anti a b:=by unfold cmpI;split<;>split<;>(try split)<;>omega
 zero a b:=by unfold cmpI;split<;>(try split)<;>constructor<;>intro h<;>omega
 tr a b d:=by unfold cmpI;intro h1 h2;split at h1<;>split at h2<;>(try split at h1)<;>(try split at h2)<;>(try split)<;>(try split)<;>omega
theorem bl_cons (a b:UInt8) (x y:List UInt8):Op.bytesLess (a :: x) (b :: y)=(decide (a < b) || (a == b && Op.bytesLess x y)):=by simp [Op.bytesLess]
theorem cmpS_cons (a b:UInt8) (x y:List UInt8):cmpS (a :: x) (b :: y)=if cmpI a.toNat b.toNat≠0 then cmpI a.toNat b.toNat else cmpS x y:=by
 have h1:(a < b)↔a.toNat < b.toNat:=Iff.rfl
 have h2:(b < a)↔b.toNat < a.toNat:=Iff.rfl
 unfold cmpS
 rw [bl_cons,bl_cons]
 by_cases hab:a=b
 ·subst hab
  have h0:cmpI (a.toNat:Int) a.toNat=0:=(ordI.zero _ _).2 rfl
  have hn:¬ (a < a):=fun h=>by have:=h1.1 h;omega
  rw [if_neg (show ¬ (cmpI (a.toNat:Int) a.toNat≠0) by simp [h0])]
  simp [hn]
 ·have hne:a.toNat≠b.toNat:=fun h=>hab (UInt8.toNat_inj.1 h)
  have hba:¬ b=a:=fun h=>hab h.symm
  have hz:cmpI (a.toNat:Int) b.toNat≠0:=fun h=>by have:=(ordI.zero _ _).1 h;omega
  rw [if_pos hz]
  unfold cmpI
  by_cases h3:a.toNat < b.toNat
  ·have h4:a < b:=h1.2 h3
   simp [h4];omega
  ·have h4:¬ a < b:=fun h=>h3 (h1.1 h)
   have h5:b < a:=h2.2 (by omega)
   simp [h4,h5,hab];omega
theorem ordS:OrdC cmpS where
 val a b:=by unfold cmpS;split<;>(try split)<;>simp
 anti a := by
  induction a with
  | nil=>intro b;cases b<;>simp [cmpS,Op.bytesLess]
  | cons x a ih =>
    intro b
    cases b with
    | nil=>simp [cmpS,Op.bytesLess]
    | cons y b =>
      rw [cmpS_cons,cmpS_cons,ordI.anti x.toNat y.toNat,ih b]
      by_cases h:cmpI (x.toNat:Int) y.toNat=0<;>simp [h]
 zero a := by
  induction a with
  | nil=>intro b;cases b<;>simp [cmpS,Op.bytesLess]
  | cons x a ih =>
    intro b
    cases b with
    | nil=>simp [cmpS,Op.bytesLess]
    | cons y b =>
      rw [cmpS_cons]
      by_cases h:cmpI (x.toNat:Int) y.toNat=0
      ·have h2:=(ordI.zero _ _).1 h
       have h3:x=y:=UInt8.toNat_inj.1 (by omega)
       rw [if_neg (by simp [h]),ih b,h3];simp
      ·rw [if_pos h]
       constructor
       ·intro e;exact absurd e h
       ·intro e;simp only [List.cons.injEq] at e;rw [e.1] at h;exact absurd ((ordI.zero _ _).2 rfl) h
 tr a := by
  induction a with
  | nil=>intro b d _ _;cases d<;>simp [cmpS,Op.bytesLess]
  | cons x a ih =>
    intro b d h1 h2
    cases b with
    | nil=>simp [cmpS,Op.bytesLess] at h1
    | cons y b =>
      cases d with
      | nil=>simp [cmpS,Op.bytesLess] at h2
      | cons z d =>
        rw [cmpS_cons] at h1 h2 ⊢
        unfold cmpI at *
        by_cases c1:(x.toNat:Int) < y.toNat<;>by_cases c2:(y.toNat:Int) < z.toNat<;>by_cases c3:(y.toNat:Int) < x.toNat<;>by_cases c4:(z.toNat:Int) < y.toNat<;>by_cases c5:(x.toNat:Int) < z.toNat<;>by_cases c6:(z.toNat:Int) < x.toNat<;>simp [c1,c2,c3,c4,c5,c6] at h1 h2 ⊢<;>first|omega|exact ih b d h1 h2
end Go.Proofs.YtllanbmpacgigaaGreatDoor
