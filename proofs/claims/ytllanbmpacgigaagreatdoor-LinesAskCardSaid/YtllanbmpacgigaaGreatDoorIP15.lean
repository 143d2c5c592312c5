/- Texts of the proof, joined. -/
import Derived.Test.YtllanbmpacgigaaGreatDoorIPa
import Derived.Test.YtllanbmpacgigaaGreatDoorIMb
namespace Go.Proofs.YtllanbmpacgigaaGreatDoor
set_option linter.unusedSimpArgs false
set_option linter.unusedVariables false
theorem dropD {α:Type} [Inhabited α] (l:List α) (k:Nat) (h:(k:Int) < l.length):l.drop k=l.getD k default :: l.drop (k+1):=by
 have h':k < l.length:=by omega
 rw [List.drop_eq_getElem_cons h']
 simp [h']
theorem takeD {α:Type} [Inhabited α] (l:List α) (k:Nat) (h:(k:Int) < l.length):l.take (k+1)=l.take k++[l.getD k default]:=by
 have h':k < l.length:=by omega
 rw [List.take_succ_eq_append_getElem h']
 simp [h']
theorem mapG {α β:Type} [Inhabited α] [Inhabited β] (f:α→β) (l:List α) (k:Nat) (h:(k:Int) < l.length):(l.map f).getD k default=f (l.getD k default):=by
 have h':k < l.length:=by omega
 simp [h']
theorem mapD {α β:Type} [Inhabited α] [Inhabited β] (f:α→β) (l:List α) (k:Nat) (h:(k:Int) < l.length):(l.map f).drop k=f (l.getD k default) :: (l.map f).drop (k+1):=by
 rw [dropD _ k (by simpa using h),mapG f l k h]
theorem mapT {α β:Type} [Inhabited α] [Inhabited β] (f:α→β) (l:List α) (k:Nat) (h:(k:Int) < l.length):(l.map f).take (k+1)=(l.map f).take k++[f (l.getD k default)]:=by
 rw [takeD _ k (by simpa using h),mapG f l k h]
theorem mapL {α β:Type} (f:α→β) (l:List α) (k:Nat) (h:k≤l.length):((l.map f).take k).length=k:=by simp;omega
def atF (names:List Str) (name:Str) (i:Nat):Int :=
 match names with
 | []=>-1
 | n :: r=>if n=name then i else atF r name (i+1)
def atM (names:List Str) (name:Str):Int:=atF names name 0
theorem atF_shift:∀ (l:List Str) (s:Str) (i:Nat),atF l s i=if 0≤atF l s 0 then i+atF l s 0 else -1:=by
 intro l s
 induction l with
 | nil=>intro i;simp [atF]
 | cons n r ih =>
   intro i
   simp only [atF]
   by_cases h:n=s
   ·simp [h]
   ·simp only [if_neg h]
    rw [ih (i+1),ih (0+1)]
    split<;>split<;>omega
theorem atM_cons (n:Str) (r:List Str) (s:Str):atM (n :: r) s=if n=s then 0 else if 0≤atM r s then 1+atM r s else -1:=by
 simp only [atM,atF]
 by_cases h:n=s
 ·simp [h]
 ·rw [if_neg h,if_neg h,atF_shift r s (0+1)]
  split<;>omega
theorem atM_lt (l:List Str) (s:Str):-1≤atM l s∧atM l s < l.length:=by
 induction l with
 | nil=>simp [atM,atF]
 | cons n r ih=>rw [atM_cons];simp only [List.length_cons];split<;>(try split)<;>omega
theorem atM_app (l:List Str) (n s:Str):atM (l++[n]) s=if 0≤atM l s then atM l s else if n=s then l.length else -1:=by
 induction l with
 | nil=>simp [atM,atF]
 | cons x r ih =>
   rw [List.cons_append,atM_cons,ih,atM_cons]
   have:=atM_lt r s
   simp only [List.length_cons]
   split<;>(try split)<;>(try split)<;>(try split)<;>(try split)<;>omega
def mtM (l:List Str):Str→Option Int:=fun s=>if 0≤atM l s then some (atM l s) else none
theorem mtM_nil:mtM []=fun _=>none:=by funext s;simp [mtM,atM,atF]
theorem mtM_put (l:List Str) (n:Str) (k:Int) (hk:k=l.length) (h:atM l n < 0):mput (mtM l) n k=mtM (l++[n]):=by
 subst hk
 funext s
 have hle:=atM_lt l s
 simp only [mput,mtM,atM_app]
 by_cases hs:s=n
 ·subst hs
  have h1:¬ (0≤atM l s):=by omega
  simp [h1]
 ·have hs':¬ n=s:=fun e=>hs e.symm
  by_cases h0:0≤atM l s
  ·simp [hs,h0]
  ·simp [hs,hs',h0]
theorem mtM_get (l:List Str) (s:Str):mget I (I 0) (mtM l s)=I (max (atM l s) 0):=by
 unfold mtM
 by_cases h:0≤atM l s
 ·rw [if_pos h];simp only [mget];rw [Int.max_eq_left h]
 ·rw [if_neg h];simp only [mget];rw [Int.max_eq_right zo]
theorem mtM_some (l:List Str) (s:Str):(mtM l s).isSome=decide (0≤atM l s):=by
 unfold mtM
 by_cases h:0≤atM l s<;>simp [h]
def newF (ahead:List Str):List Str→Int×Int
 | []=>(ahead.length,0)
 | n :: r=>if validM n=true then (if 0≤atM ahead n then (ahead.length,15) else newF (ahead++[n]) r) else (ahead.length,14)
def newM (names:List Str):Int×Int:=if names.length=0 then (0,13) else newF [] names
def totL:List Str→Nat
 | []=>0
 | f :: r=>f.length+totL r
theorem getD_mem {α:Type} [Inhabited α] (l:List α) (k:Nat) (h:(k:Int) < l.length):l.getD k default∈l:=by
 have h':k < l.length:=by omega
 simp [h']
structure Col where
 name:Str
 kind:Int
 null:Bool
structure RCol where
 name:Str
 kind:Int
 null:Int
instance : Inhabited Col := ⟨⟨[], 0, false⟩⟩
instance : Inhabited RCol := ⟨⟨[], 0, 0⟩⟩
def eC:Enc Col:=⟨3,fun c=>[S c.name,I c.kind,.bool c.null],fun _=>rfl⟩
def eR:Enc RCol:=⟨3,fun c=>[S c.name,I c.kind,I c.null],fun _=>rfl⟩
instance : EncSz eC 3 := ⟨rfl⟩
instance : EncSz eR 3 := ⟨rfl⟩
theorem eC_f (c:Col):eC.f c=[S c.name,I c.kind,.bool c.null]:=rfl
theorem eR_f (c:RCol):eR.f c=[S c.name,I c.kind,I c.null]:=rfl
attribute [push_cast] eC_f eR_f
def nkC (c:Col):Str×Int:=(c.name,c.kind)
def wordM (k:Int):Str:=if k=1 then [116,101,120,116] else if k=2 then [105,110,116] else if k=3 then [98,111,111,108] else []
theorem wordM_nil (k:Int):(wordM k=[])↔¬ (1≤k∧k≤3):=by
 unfold wordM
 by_cases h1:k=1
 ·simp [h1]
 ·by_cases h2:k=2
  ·simp [h2]
  ·by_cases h3:k=3
   ·simp [h3]
   ·rw [if_neg h1,if_neg h2,if_neg h3];simp;omega
def checkF (ahead:List Str):List (Str×Int)→Int×Int
 | []=>(ahead.length,0)
 | c :: r=>if 1≤c.2∧c.2≤3 then (if validM c.1=true then (if 0≤atM ahead c.1 then (ahead.length,15) else checkF (ahead++[c.1]) r) else (ahead.length,14)) else (ahead.length,21)
theorem checkF_cons (a:List Str) (n:Str) (k:Int) (r:List (Str×Int)):checkF a ((n,k) :: r)=if 1≤k∧k≤3 then (if validM n=true then (if 0≤atM a n then ((a.length:Int),15) else checkF (a++[n]) r) else ((a.length:Int),14)) else ((a.length:Int),21):=rfl
def checkM (l:List (Str×Int)):Int×Int:=if l.length=0 then (0,13) else checkF [] l
def mbM (l:List Str):Str→Option Bool:=fun s=>if 0≤atM l s then some true else none
theorem mbM_nil:mbM []=fun _=>none:=by funext s;simp [mbM,atM,atF]
theorem mbM_put (l:List Str) (n:Str):mput (mbM l) n true=mbM (l++[n]):=by
 funext s
 have hle:=atM_lt l s
 simp only [mput,mbM,atM_app]
 by_cases hs:s=n
 ·subst hs
  by_cases h0:0≤atM l s
  ·simp [h0]
  ·simp [h0]
 ·have hs':¬ n=s:=fun e=>hs e.symm
  by_cases h0:0≤atM l s
  ·simp [hs,h0]
  ·simp [hs,hs',h0]
theorem mbM_get (l:List Str) (s:Str):mget Value.bool (.bool false) (mbM l s)=.bool (decide (0≤atM l s)):=by
 unfold mbM
 by_cases h:0≤atM l s
 ·rw [if_pos h];simp [mget,h]
 ·rw [if_neg h];simp [mget,h]
def bcF (names:List Str) (mode:Int):List Str→List Int→List Int×Int×Int
 | [],out=>(out,out.length,0)
 | c :: r,out=>if atM names c < 0∨(mode=1∧atM names c≠out.length) then ([],out.length,16) else bcF names mode r (out++[atM names c])
theorem bcF_len (names:List Str) (mode:Int):∀ (r:List Str) (out:List Int),(bcF names mode r out).2.2=0→(bcF names mode r out).1.length=out.length+r.length∧(bcF names mode r out).2.1=out.length+r.length:=by
 intro r
 induction r with
 | nil=>intro out _;simp [bcF]
 | cons c r ih =>
   intro out h
   simp only [bcF] at h ⊢
   split at h
   ·simp at h
   ·rename_i hc
    rw [if_neg hc]
    have:=ih _ h
    simp only [List.length_append,List.length_cons,List.length_nil] at this ⊢
    omega
theorem bcF_cons (names:List Str) (mode:Int) (c:Str) (r:List Str) (out:List Int):bcF names mode (c :: r) out=if atM names c < 0∨(mode=1∧atM names c≠out.length) then ([],(out.length:Int),16) else bcF names mode r (out++[atM names c]):=rfl
def lackF (cols:List Str):List Str→Nat→Option Nat
 | [],_=>none
 | n :: r,i=>if atM cols n < 0 then some i else lackF cols r (i+1)
theorem lackF_cons (cols:List Str) (n:Str) (r:List Str) (i:Nat):lackF cols (n :: r) i=if atM cols n < 0 then some i else lackF cols r (i+1):=rfl
def bindCM (names:List Str) (cs:List (Str×Int)) (mode:Int):List Int×Int×Int :=
 if mode < 1∨3 < mode then ([],0,22) else
 if (checkM cs).2≠0 then ([],checkM cs) else
 if (newM names).2≠0 then ([],newM names) else
 if (bcF names mode (cs.map (·.1)) []).2.2≠0 then ([],(bcF names mode (cs.map (·.1)) []).2) else
 if mode < 3 then (match lackF (cs.map (·.1)) names 0 with|some i=>([],(i:Int),10)|none=>bcF names mode (cs.map (·.1)) [])
 else bcF names mode (cs.map (·.1)) []
def spB (b:UInt8):Str:=if b=92 then [92,92] else if b=10 then [92,110] else if b=13 then [92,114] else [b]
def sqM (s:Str):Str:=s.flatMap spB
def quM (b:Bool):Str:=if b=true then [63] else []
def lineC (c:Col):Str:=wordM c.kind++(quM c.null++(32 :: (sqM c.name++[10])))
def unM:Str→Option Str
 | []=>some []
 | b :: r=>if b=10∨b=13 then none else if b=92 then (match r with
     | []=>none
     | c :: r'=>if c=92 then (unM r').map (92 :: ·) else if c=110 then (unM r').map (10 :: ·) else if c=114 then (unM r').map (13 :: ·) else none) else (unM r).map (b :: ·)
theorem sqM_cons (b:UInt8) (r:Str):sqM (b :: r)=spB b++sqM r:=by simp [sqM]
theorem spB_92:spB 92=[92,92]:=by decide
theorem spB_10:spB 10=[92,110]:=by decide
theorem spB_13:spB 13=[92,114]:=by decide
theorem spB_o {b:UInt8} (h1:¬ b=92) (h2:¬ b=10) (h3:¬ b=13):spB b=[b]:=by unfold spB;rw [if_neg h1,if_neg h2,if_neg h3]
theorem unM_o {b:UInt8} (r:Str) (h1:¬ b=92) (h2:¬ b=10) (h3:¬ b=13):unM (b :: r)=(unM r).map (b :: ·):=by
 cases r<;>simp [unM,h1,h2,h3]
theorem un_sp (s:Str):unM (sqM s)=some s:=by
 induction s with
 | nil=>rfl
 | cons b r ih =>
   rw [sqM_cons]
   by_cases h1:b=92
   ·subst h1;rw [spB_92];simp [unM,ih]
   ·by_cases h2:b=10
    ·subst h2;rw [spB_10];simp [unM,ih]
    ·by_cases h3:b=13
     ·subst h3;rw [spB_13];simp [unM,ih]
     ·rw [spB_o h1 h2 h3,List.cons_append,List.nil_append,unM_o _ h1 h2 h3,ih];rfl
theorem sp_un : ∀ (n:Nat) (t:Str),t.length≤n→∀ s,unM t=some s→t=sqM s:=by
 intro n
 induction n with
 | zero =>
   intro t ht s h
   have:t=[]:=List.eq_nil_of_length_eq_zero zo
   subst this
   simp [unM] at h;subst h;rfl
 | succ n ih =>
   intro t ht s h
   match t with
   | []=>simp [unM] at h;subst h;rfl
   | [b] =>
     simp only [unM] at h
     by_cases h1:b=10∨b=13
     ·rw [if_pos h1] at h;simp at h
     ·rw [if_neg h1] at h
      by_cases h2:b=92
      ·rw [if_pos h2] at h;simp at h
      ·rw [if_neg h2] at h
       simp at h;subst h
       have:¬ b=10:=fun e=>h1 (.inl e)
       have h13:¬ b=13:=fun e=>h1 (.inr e)
       simp [sqM,spB,h2,this,h13]
   | b :: c :: r' =>
     simp only [List.length_cons] at ht
     rw [unM] at h
     by_cases h1:b=10∨b=13
     ·rw [if_pos h1] at h;simp at h
     ·rw [if_neg h1] at h
      by_cases h2:b=92
      ·rw [if_pos h2] at h
       subst h2
       split at h
       ·rename_i hc
        obtain ⟨u,hu,rfl⟩:=Option.map_eq_some_iff.1 h
        rw [hc,ih r' zo u hu];simp [sqM,spB]
       ·split at h
        ·rename_i hc
         obtain ⟨u,hu,rfl⟩:=Option.map_eq_some_iff.1 h
         rw [hc,ih r' zo u hu];simp [sqM,spB]
        ·split at h
         ·rename_i hc
          obtain ⟨u,hu,rfl⟩:=Option.map_eq_some_iff.1 h
          rw [hc,ih r' zo u hu];simp [sqM,spB]
         ·simp at h
      ·rw [if_neg h2] at h
       obtain ⟨u,hu,rfl⟩:=Option.map_eq_some_iff.1 h
       have h10:¬ b=10:=fun e=>h1 (.inl e)
       have h13:¬ b=13:=fun e=>h1 (.inr e)
       have:=ih (c :: r') (by simp only [List.length_cons];omega) u hu
       rw [this];simp [sqM,spB,h2,h10,h13]
theorem sp_no (s:Str):(10:UInt8) ∉ sqM s:=by
 intro h
 obtain ⟨b,_,hb⟩:=List.mem_flatMap.1 h
 unfold spB at hb
 split at hb
 ·simp at hb
 ·split at hb
  ·simp at hb
  ·split at hb
   ·simp at hb
   ·simp at hb;simp_all
def cutM (c:UInt8):Str→Option (Str×Str)
 | []=>none
 | b :: r=>if b=c then some ([],r) else (cutM c r).map fun p=>(b :: p.1,p.2)
theorem cut_at (c:UInt8) (a r:Str) (h:c ∉ a):cutM c (a++c :: r)=some (a,r):=by
 induction a with
 | nil=>simp [cutM]
 | cons b a ih =>
   simp only [List.mem_cons,not_or] at h
   rw [List.cons_append,cutM,if_neg (fun e=>h.1 e.symm),ih h.2];rfl
theorem cut_of (c:UInt8) (s:Str) {a r:Str} (h:cutM c s=some (a,r)):s=a++c :: r∧c ∉ a:=by
 induction s generalizing a r with
 | nil=>simp [cutM] at h
 | cons b s ih =>
   rw [cutM] at h
   by_cases hb:b=c
   ·rw [if_pos hb] at h;simp at h;obtain ⟨rfl,rfl⟩:=h;simp [hb]
   ·rw [if_neg hb] at h
    obtain ⟨⟨a',r'⟩,h1,h2⟩:=Option.map_eq_some_iff.1 h
    simp at h2;obtain ⟨rfl,rfl⟩:=h2
    obtain ⟨e1,e2⟩:=ih h1
    rw [e1]
    refine ⟨rfl,?_⟩
    simp only [List.mem_cons,not_or]
    exact ⟨fun e=>hb e.symm,e2⟩
def kindM (k:Str):Option Int:=if k=[116,101,120,116] then some 1 else if k=[105,110,116] then some 2 else if k=[98,111,111,108] then some 3 else none
theorem kind_word {k:Str} {n:Int} (h:kindM k=some n):k=wordM n∧1≤n∧n≤3:=by
 unfold kindM at h
 split at h
 ·simp at h;subst h;rename_i e;subst e;decide
 ·split at h
  ·simp at h;subst h;rename_i e;subst e;decide
  ·split at h
   ·simp at h;subst h;rename_i e;subst e;decide
   ·simp at h
theorem word_kind {n:Int} (h:1≤n∧n≤3):kindM (wordM n)=some n:=by
 have:n=1∨n=2∨n=3:=by omega
 rcases this with rfl|rfl|rfl<;>decide
def sufM (k:Str):Str×Bool:=if k.getLast?=some 63 then (k.dropLast,true) else (k,false)
theorem suf_eq (k:Str):k=(sufM k).1++quM (sufM k).2:=by
 unfold sufM
 by_cases h:k.getLast?=some 63
 ·rw [if_pos h]
  obtain ⟨ys,e⟩:=List.getLast?_eq_some_iff.1 h
  subst e
  simp [quM]
 ·rw [if_neg h];simp [quM]
theorem suf_word {n:Int} (h:1≤n∧n≤3) (b:Bool):sufM (wordM n++quM b)=(wordM n,b):=by
 have:n=1∨n=2∨n=3:=by omega
 rcases this with rfl|rfl|rfl<;>cases b<;>decide
def colM (line:Str):Option Col :=
 match cutM 32 line with
 | none=>none
 | some p=>match unM p.2 with
   | none=>none
   | some name=>if validM name=true then (kindM (sufM p.1).1).map fun k=>⟨name,k,(sufM p.1).2⟩ else none
theorem col_iff (line:Str) (c:Col):colM line=some c↔line++[10]=lineC c∧validM c.name=true∧1≤c.kind∧c.kind≤3:=by
 constructor
 ·intro h
  unfold colM at h
  split at h
  ·simp at h
  ·rename_i p hp
   split at h
   ·simp at h
   ·rename_i name hn
    split at h
    ·rename_i hv
     obtain ⟨k,hk,rfl⟩:=Option.map_eq_some_iff.1 h
     obtain ⟨e1,e2⟩:=kind_word hk
     obtain ⟨e3,_⟩:=cut_of 32 line (a:=p.1) (r:=p.2) hp
     have e4:=sp_un _ p.2 (Nat.le_refl _) name hn
     have e5:=suf_eq p.1
     refine ⟨?_,hv,e2⟩
     simp only [lineC]
     rw [e3,e4,←e1]
     conv=>lhs;rw [e5]
     simp
    ·simp at h
 ·rintro ⟨h1,h2,h3,h4⟩
  have e:line=(wordM c.kind++quM c.null)++32 :: sqM c.name:=by
   have:line++[10]=((wordM c.kind++quM c.null)++32 :: sqM c.name)++[10]:=by rw [h1];simp [lineC]
   exact List.append_cancel_right this
  have hk:c.kind=1∨c.kind=2∨c.kind=3:=by omega
  have hno:(32:UInt8) ∉ wordM c.kind++quM c.null:=by
   rcases hk with e|e|e<;>rw [e]<;>cases c.null<;>decide
  have hcut:=cut_at 32 _ (sqM c.name) hno
  rw [←e] at hcut
  unfold colM
  rw [hcut]
  simp only [un_sp,h2,if_pos,suf_word ⟨h3,h4⟩,word_kind ⟨h3,h4⟩,Option.map_some]
def lcM (s:Str):Option Col:=match cutM 10 s with
 | none=>none
 | some p=>if p.2=[] then colM p.1 else none
theorem lc_iff (s:Str) (c:Col):lcM s=some c↔s=lineC c∧validM c.name=true∧1≤c.kind∧c.kind≤3:=by
 constructor
 ·intro h
  unfold lcM at h
  split at h
  ·simp at h
  ·rename_i p hp
   split at h
   ·rename_i hr
    obtain ⟨e,_⟩:=cut_of 10 s (a:=p.1) (r:=p.2) hp
    have:=(col_iff p.1 c).1 h
    rw [e,hr];exact this
   ·simp at h
 ·rintro ⟨h1,h2,h3,h4⟩
  have e:s=(wordM c.kind++(quM c.null++32 :: sqM c.name))++10 :: []:=by rw [h1];simp [lineC]
  have hk:c.kind=1∨c.kind=2∨c.kind=3:=by omega
  have hno:(10:UInt8) ∉ wordM c.kind++(quM c.null++32 :: sqM c.name):=by
   have h5:=sp_no c.name
   have h6:(10:UInt8) ∉ wordM c.kind:=by rcases hk with e|e|e<;>rw [e]<;>decide
   have h7:(10:UInt8) ∉ quM c.null:=by cases c.null<;>decide
   simp [h5,h6,h7]
  have hcut:=cut_at 10 _ [] hno
  rw [←e] at hcut
  unfold lcM
  rw [hcut]
  simp only [if_pos]
  rw [col_iff]
  exact ⟨by simp [lineC],h2,h3,h4⟩
def linesF (cur:Str):Str→List Str
 | []=>if cur=[] then [] else [cur]
 | b :: r=>if b=10 then (cur++[10]) :: linesF [] r else linesF (cur++[b]) r
theorem linesF_cut (s cur:Str):linesF cur s=match cutM 10 s with
 | none=>if cur++s=[] then [] else [cur++s]
 | some p=>(cur++p.1++[10]) :: linesF [] p.2:=by
 induction s generalizing cur with
 | nil=>simp [linesF,cutM]
 | cons b s ih =>
   rw [linesF,cutM]
   by_cases hb:b=10
   ·subst hb;simp
   ·rw [if_neg hb,if_neg hb,ih]
    cases cutM 10 s with
    | none=>simp
    | some p=>simp
def prsF (acc:List Col):List Str→List Col×Int×Int
 | []=>(acc,acc.length,0)
 | s :: r=>match lcM s with
   | none=>([],acc.length+1,23)
   | some c=>if 0≤atM (acc.map (·.name)) c.name then ([],acc.length+1,23) else prsF (acc++[c]) r
def prsM (s:Str):List Col×Int×Int:=if s=[] then ([],0,23) else prsF [] (linesF [] s)
def namesC (l:List Col):List Str:=l.map (·.name)
def textM (l:List Col):Str:=l.flatMap lineC
end Go.Proofs.YtllanbmpacgigaaGreatDoor
