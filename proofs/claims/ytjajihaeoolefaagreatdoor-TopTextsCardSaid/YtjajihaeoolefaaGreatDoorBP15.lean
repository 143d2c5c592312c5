/- Texts of the proof, joined. -/
import Derived.Test.YtjajihaeoolefaaGreatDoorBPa
import Derived.Test.YtjajihaeoolefaaGreatDoorBMb
namespace Go.Proofs.YtjajihaeoolefaaGreatDoor
set_option linter.unusedSimpArgs false
set_option linter.unusedVariables false
theorem dropD {α:Type} [Inhabited α] (l:List α) (k:Nat) (h:(k:Int) < l.length):l.drop k=l.getD k default :: l.drop (k+1):=by
  have h':k < l.length:=by omega
  rw [List.drop_eq_getElem_cons h']
  simp [h']
theorem takeD {α:Type} [Inhabited α] (l:List α) (k:Nat) (h:(k:Int) < l.length):l.take (k+1)=l.take k++[l.getD k default]:=by
  have h':k < l.length:=by omega
  rw [List.take_succ_eq_append_getElem h']
  simp [h']
theorem mapG {α β:Type} [Inhabited α] [Inhabited β] (f:α→β) (l:List α) (k:Nat) (h:(k:Int) < l.length):(l.map f).getD k default=f (l.getD k default):=by
  have h':k < l.length:=by omega
  simp [h']
theorem mapD {α β:Type} [Inhabited α] [Inhabited β] (f:α→β) (l:List α) (k:Nat) (h:(k:Int) < l.length):(l.map f).drop k=f (l.getD k default) :: (l.map f).drop (k+1):=by
  rw [dropD _ k (by simpa using h),mapG f l k h]
theorem mapT {α β:Type} [Inhabited α] [Inhabited β] (f:α→β) (l:List α) (k:Nat) (h:(k:Int) < l.length):(l.map f).take (k+1)=(l.map f).take k++[f (l.getD k default)]:=by
  rw [takeD _ k (by simpa using h),mapG f l k h]
theorem mapL {α β:Type} (f:α→β) (l:List α) (k:Nat) (h:k≤l.length):((l.map f).take k).length=k:=by simp;omega
def atF (names:List Str) (name:Str) (i:Nat):Int :=
  match names with
  | []=>-1
  | n :: r=>if n=name then i else atF r name (i+1)
def atM (names:List Str) (name:Str):Int:=atF names name 0
theorem atF_shift:∀ (l:List Str) (s:Str) (i:Nat),atF l s i=if 0≤atF l s 0 then i+atF l s 0 else -1:=by
  intro l s
  induction l with
  | nil=>intro i;simp [atF]
  | cons n r ih =>
    intro i
    simp only [atF]
    by_cases h:n=s
    · simp [h]
    · simp only [if_neg h]
      rw [ih (i+1),ih (0+1)]
      split<;>split<;>omega
theorem atM_cons (n:Str) (r:List Str) (s:Str):atM (n :: r) s=if n=s then 0 else if 0≤atM r s then 1+atM r s else -1:=by
  simp only [atM,atF]
  by_cases h:n=s
  · simp [h]
  · rw [if_neg h,if_neg h,atF_shift r s (0+1)]
    split<;>omega
theorem atM_lt (l:List Str) (s:Str):-1≤atM l s∧atM l s < l.length:=by
  induction l with
  | nil=>simp [atM,atF]
  | cons n r ih=>rw [atM_cons];simp only [List.length_cons];split<;>(try split)<;>omega
theorem atM_mem (l:List Str) (s:Str):0≤atM l s↔s∈l:=by
  induction l with
  | nil=>simp [atM,atF]
  | cons n r ih =>
    rw [atM_cons,List.mem_cons,←ih]
    by_cases h:n=s
    · simp [h]
    · have h':¬ s=n:=fun e=>h e.symm
      rw [if_neg h]
      by_cases h2:0≤atM r s
      · simp [h2];omega
      · simp [h2,h']
theorem atM_app (l:List Str) (n s:Str):atM (l++[n]) s=if 0≤atM l s then atM l s else if n=s then l.length else -1:=by
  induction l with
  | nil=>simp [atM,atF]
  | cons x r ih =>
    rw [List.cons_append,atM_cons,ih,atM_cons]
    have:=atM_lt r s
    simp only [List.length_cons]
    split<;>(try split)<;>(try split)<;>(try split)<;>(try split)<;>omega
def mtM (l:List Str):Str→Option Int:=fun s=>if 0≤atM l s then some (atM l s) else none
theorem mtM_nil:mtM []=fun _=>none:=by funext s;simp [mtM,atM,atF]
theorem mtM_put (l:List Str) (n:Str) (k:Int) (hk:k=l.length) (h:atM l n < 0):mput (mtM l) n k=mtM (l++[n]):=by
  subst hk
  funext s
  have hle:=atM_lt l s
  simp only [mput,mtM,atM_app]
  by_cases hs:s=n
  · subst hs
    have h1:¬ (0≤atM l s):=by omega
    simp [h1]
  · have hs':¬ n=s:=fun e=>hs e.symm
    by_cases h0:0≤atM l s
    · simp [hs,h0]
    · simp [hs,hs',h0]
theorem mtM_get (l:List Str) (s:Str):mget I (I 0) (mtM l s)=I (max (atM l s) 0):=by
  unfold mtM
  by_cases h:0≤atM l s
  · rw [if_pos h];simp only [mget];rw [Int.max_eq_left h]
  · rw [if_neg h];simp only [mget];rw [Int.max_eq_right (by omega)]
theorem mtM_some (l:List Str) (s:Str):(mtM l s).isSome=decide (0≤atM l s):=by
  unfold mtM
  by_cases h:0≤atM l s<;>simp [h]
def newF (ahead:List Str):List Str→Int×Int
  | []=>(ahead.length,0)
  | n :: r=>if validM n=true then (if 0≤atM ahead n then (ahead.length,15) else newF (ahead++[n]) r) else (ahead.length,14)
def newM (names:List Str):Int×Int:=if names.length=0 then (0,13) else newF [] names
theorem getD_mem {α:Type} [Inhabited α] (l:List α) (k:Nat) (h:(k:Int) < l.length):l.getD k default∈l:=by
  have h':k < l.length:=by omega
  simp [h']
end Go.Proofs.YtjajihaeoolefaaGreatDoor
namespace Go.Proofs.YtjajihaeoolefaaGreatDoor
set_option linter.unusedSimpArgs false
set_option linter.unusedVariables false
structure Col where
  name:Str
  kind:Int
  null:Bool
structure RCol where
  name:Str
  kind:Int
  null:Int
instance : Inhabited Col := ⟨⟨[], 0, false⟩⟩
instance : Inhabited RCol := ⟨⟨[], 0, 0⟩⟩
def eC:Enc Col:=⟨3,fun c=>[S c.name,I c.kind,.bool c.null],fun _=>rfl⟩
def eR:Enc RCol:=⟨3,fun c=>[S c.name,I c.kind,I c.null],fun _=>rfl⟩
instance : EncSz eC 3 := ⟨rfl⟩
instance : EncSz eR 3 := ⟨rfl⟩
theorem eC_f (c:Col):eC.f c=[S c.name,I c.kind,.bool c.null]:=rfl
theorem eR_f (c:RCol):eR.f c=[S c.name,I c.kind,I c.null]:=rfl
attribute [push_cast] eC_f eR_f
def toR (c:Col):RCol:=⟨c.name,c.kind,if c.null then 1 else 0⟩
def nkC (c:Col):Str×Int:=(c.name,c.kind)
def nkR (c:RCol):Str×Int:=(c.name,c.kind)
theorem nk_toR (l:List Col):(l.map toR).map nkR=l.map nkC:=by simp [toR,nkR,nkC]
def wordM (k:Int):Str:=if k=1 then [116,101,120,116] else if k=2 then [105,110,116] else if k=3 then [98,111,111,108] else []
theorem wordM_nil (k:Int):(wordM k=[])↔¬ (1≤k∧k≤3):=by
  unfold wordM
  by_cases h1:k=1
  · simp [h1]
  · by_cases h2:k=2
    · simp [h2]
    · by_cases h3:k=3
      · simp [h3]
      · rw [if_neg h1,if_neg h2,if_neg h3];simp;omega
def checkF (ahead:List Str):List (Str×Int)→Int×Int
  | []=>(ahead.length,0)
  | c :: r=>if 1≤c.2∧c.2≤3 then (if validM c.1=true then (if 0≤atM ahead c.1 then (ahead.length,15) else checkF (ahead++[c.1]) r) else (ahead.length,14)) else (ahead.length,21)
theorem checkF_cons (a:List Str) (n:Str) (k:Int) (r:List (Str×Int)):checkF a ((n,k) :: r)=if 1≤k∧k≤3 then (if validM n=true then (if 0≤atM a n then ((a.length:Int),15) else checkF (a++[n]) r) else ((a.length:Int),14)) else ((a.length:Int),21):=rfl
def checkM (l:List (Str×Int)):Int×Int:=if l.length=0 then (0,13) else checkF [] l
def mbM (l:List Str):Str→Option Bool:=fun s=>if 0≤atM l s then some true else none
theorem mbM_nil:mbM []=fun _=>none:=by funext s;simp [mbM,atM,atF]
theorem mbM_put (l:List Str) (n:Str):mput (mbM l) n true=mbM (l++[n]):=by
  funext s
  have hle:=atM_lt l s
  simp only [mput,mbM,atM_app]
  by_cases hs:s=n
  · subst hs
    by_cases h0:0≤atM l s
    · simp [h0]
    · simp [h0]
  · have hs':¬ n=s:=fun e=>hs e.symm
    by_cases h0:0≤atM l s
    · simp [hs,h0]
    · simp [hs,hs',h0]
theorem mbM_get (l:List Str) (s:Str):mget Value.bool (.bool false) (mbM l s)=.bool (decide (0≤atM l s)):=by
  unfold mbM
  by_cases h:0≤atM l s
  · rw [if_pos h];simp [mget,h]
  · rw [if_neg h];simp [mget,h]
def bcF (names:List Str) (mode:Int):List Str→List Int→List Int×Int×Int
  | [],out=>(out,out.length,0)
  | c :: r,out=>if atM names c < 0∨(mode=1∧atM names c≠out.length) then ([],out.length,16) else bcF names mode r (out++[atM names c])
theorem bcF_len (names:List Str) (mode:Int):∀ (r:List Str) (out:List Int),(bcF names mode r out).2.2=0→(bcF names mode r out).1.length=out.length+r.length∧(bcF names mode r out).2.1=out.length+r.length:=by
  intro r
  induction r with
  | nil=>intro out _;simp [bcF]
  | cons c r ih =>
    intro out h
    simp only [bcF] at h ⊢
    split at h
    · simp at h
    · rename_i hc
      rw [if_neg hc]
      have:=ih _ h
      simp only [List.length_append,List.length_cons,List.length_nil] at this ⊢
      omega
theorem bcF_cons (names:List Str) (mode:Int) (c:Str) (r:List Str) (out:List Int):bcF names mode (c :: r) out=if atM names c < 0∨(mode=1∧atM names c≠out.length) then ([],(out.length:Int),16) else bcF names mode r (out++[atM names c]):=rfl
def lackF (cols:List Str):List Str→Nat→Option Nat
  | [],_=>none
  | n :: r,i=>if atM cols n < 0 then some i else lackF cols r (i+1)
theorem lackF_cons (cols:List Str) (n:Str) (r:List Str) (i:Nat):lackF cols (n :: r) i=if atM cols n < 0 then some i else lackF cols r (i+1):=rfl
def bindCM (names:List Str) (cs:List (Str×Int)) (mode:Int):List Int×Int×Int :=
  if mode < 1∨3 < mode then ([],0,22) else
  if (checkM cs).2≠0 then ([],checkM cs) else
  if (newM names).2≠0 then ([],newM names) else
  if (bcF names mode (cs.map (·.1)) []).2.2≠0 then ([],(bcF names mode (cs.map (·.1)) []).2) else
  if mode < 3 then (match lackF (cs.map (·.1)) names 0 with|some i=>([],(i:Int),10)|none=>bcF names mode (cs.map (·.1)) [])
  else bcF names mode (cs.map (·.1)) []
end Go.Proofs.YtjajihaeoolefaaGreatDoor
namespace Go.Proofs.YtjajihaeoolefaaGreatDoor
set_option linter.unusedSimpArgs false
set_option linter.unusedVariables false
end Go.Proofs.YtjajihaeoolefaaGreatDoor
namespace Go.Proofs.YtjajihaeoolefaaGreatDoor
set_option linter.unusedSimpArgs false
set_option linter.unusedVariables false
def namesC (l:List Col):List Str:=l.map (·.name)
theorem checkF_ok:∀ (l:List Col) (a:List Str),(checkF a (l.map nkC)).2=0→a.Nodup→(∀ c∈l,1≤c.kind∧c.kind≤3∧validM c.name=true)∧(a++namesC l).Nodup∧checkF a (l.map nkC)=((a.length:Int)+l.length,0):=by
  intro l
  induction l with
  | nil=>intro a _ h;simpa [namesC,checkF] using h
  | cons c r ih =>
    intro a h ha
    have e:(c :: r).map nkC=(c.name,c.kind) :: r.map nkC:=rfl
    rw [e,checkF_cons] at h ⊢
    split at h
    · rename_i h1
      split at h
      · rename_i h2
        split at h
        · simp at h
        · rename_i h3
          have hn:c.name ∉ a:=fun hm=>h3 ((atM_mem _ _).2 hm)
          obtain ⟨i1,i2,i3⟩:=ih (a++[c.name]) h (by rw [List.nodup_append];exact ⟨ha,by simp,by intro x hx y hy e;simp at hy;subst hy;subst e;exact hn hx⟩)
          rw [if_pos h1,if_pos h2,if_neg h3]
          refine ⟨fun d hd=>?_,by simpa [namesC] using i2,?_⟩
          · rcases List.mem_cons.1 hd with rfl|hd
            · exact ⟨h1.1,h1.2,h2⟩
            · exact i1 d hd
          · rw [i3];simp;omega
      · simp at h
    · simp at h
structure RightC (l:List Col):Prop where
  ne:l≠[]
  ok:∀ c∈l,1≤c.kind∧c.kind≤3∧validM c.name=true
  nd:(namesC l).Nodup
  eq:checkM (l.map nkC)=((l.length:Int),0)
theorem check_right (l:List Col) (h:(checkM (l.map nkC)).2=0):RightC l:=by
  unfold checkM at h
  split at h
  · simp at h
  · rename_i hl
    obtain ⟨h1,h2,h3⟩:=checkF_ok l [] h (by simp)
    refine ⟨fun e=>hl (by simp [e]),h1,by simpa using h2,?_⟩
    rw [checkM,if_neg hl,h3];simp
theorem atM_nd (l:List Str) (hn:l.Nodup):∀ (k:Nat),k < l.length→atM l (l.getD k default)=k:=by
  induction l with
  | nil=>intro k h;simp at h
  | cons n r ih =>
    intro k h
    rw [List.nodup_cons] at hn
    cases k with
    | zero=>rw [atM_cons,if_pos (by simp)];rfl
    | succ k =>
      simp only [List.length_cons] at h
      have hk:k < r.length:=by omega
      have hg:(n :: r).getD (k+1) default=r.getD k default:=by simp
      have hm:r.getD k default∈r:=getD_mem r k (by omega)
      rw [hg,atM_cons,if_neg (fun e=>hn.1 (by rw [e];exact hm)),ih hn.2 k hk,if_pos (by omega)]
      omega
end Go.Proofs.YtjajihaeoolefaaGreatDoor
