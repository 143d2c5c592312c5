/- Texts of the proof, joined. -/
import Derived.Lib.Bytealg
import Derived.Test.YtllanbmpacgigaaGreatDoorIP06
import Derived.Test.YtllanbmpacgigaaGreatDoorIP15
namespace Go.Proofs.YtllanbmpacgigaaGreatDoor
set_option linter.unusedSimpArgs false
set_option linter.unusedVariables false
def hasB (f:Str) (c:UInt8):Bool:=f.any (· == c)
theorem idx_two (f:Str) (c:UInt8):(Lib.indexByte f c=-1∧hasB f c=false)∨(0≤Lib.indexByte f c∧hasB f c=true):=by
 induction f with
 | nil=>exact .inl ⟨rfl,rfl⟩
 | cons b r ih =>
   unfold hasB at ih ⊢
   by_cases hb:b=c
   ·exact .inr ⟨by simp [Lib.indexByte,hb],by simp [hb]⟩
   ·rcases ih with ⟨h1,h2⟩|⟨h1,h2⟩
    ·exact .inl ⟨by simp [Lib.indexByte,hb,h1],by simp [hb,h2]⟩
    ·have:¬ Lib.indexByte r c=-1:=by omega
     exact .inr ⟨by simp [Lib.indexByte,hb,this];omega,by simp [h2]⟩
theorem idx_has (f:Str) (c:UInt8):(0≤Lib.indexByte f c)=(hasB f c=true):=by
 rcases idx_two f c with ⟨h1,h2⟩|⟨h1,h2⟩<;>rw [h2]<;>simp [h1]
def bD (d:Dl):UInt8:=UInt8.ofNat d.dl.toNat
def bQ (d:Dl):UInt8:=UInt8.ofNat d.q.toNat
theorem byte_of {n:Int} (h:0≤n∧n≤255):((UInt8.ofNat n.toNat).toNat:Int)=n:=by
 simp only [UInt8.toNat_ofNat'];omega
def whyM (d:Dl) (f:Str) (alone first:Bool):Int :=
 if hasB f (bD d)=true then 1 else if hasB f (bQ d)=true then 2 else if hasB f 13=true∨hasB f 10=true then 3 else if f=[]∧alone=true then 4 else if first=true∧f.take 3=[239,187,191] then 5 else 0
theorem whyM_pos (d:Dl) (f:Str) (a b:Bool):0≤whyM d f a b:=by unfold whyM;repeat' split<;>try decide
def quoB (q c:UInt8):Str:=if c=q then [q,c] else [c]
def quoM (d:Dl) (f:Str):Str:=bQ d :: f.flatMap (quoB (bQ d))++[bQ d]
theorem quoB_len (q:UInt8):∀ f:Str,(f.flatMap (quoB q)).length≤2 * f.length
 | []=>by simp
 | c :: f=>by
   have:=quoB_len q f
   rw [List.flatMap_cons,List.length_append]
   unfold quoB at this ⊢
   split<;>simp only [List.length_cons,List.length_nil]<;>omega
theorem quoB_snoc (q:UInt8) (f:Str) (k:Nat) (hk:(k:Int) < f.length):(f.take (k+1)).flatMap (quoB q)=(f.take k).flatMap (quoB q)++quoB q (f.getD k default):=by
 rw [takeD f k hk,List.flatMap_append];simp
def wrM (d:Dl) (f:Str) (a b:Bool):Str:=if 0 < whyM d f a b then quoM d f else f
theorem wrM_len (d:Dl) (f:Str) (a b:Bool):(wrM d f a b).length≤2 * f.length+2:=by
 unfold wrM quoM
 split
 ·have:=quoB_len (bQ d) f
  simp only [List.length_cons,List.length_append,List.length_nil];omega
 ·omega
def pieceM (d:Dl) (n:Nat) (first:Bool) (i:Nat) (f:Str):Str:=(if 0 < i then [bD d] else [])++wrM d f (decide (n=1)) (first && decide (i=0))
def lineF (d:Dl) (n:Nat) (first:Bool):Nat→List Str→Str
 | _,[]=>[]
 | i,f :: r=>pieceM d n first i f++lineF d n first (i+1) r
theorem lineF_snoc (d:Dl) (n:Nat) (first:Bool):∀ (l:List Str) (i:Nat) (f:Str),lineF d n first i (l++[f])=lineF d n first i l++pieceM d n first (i+l.length) f
 | [],i,f=>by simp [lineF]
 | x :: l,i,f=>by
   simp only [List.cons_append,lineF,lineF_snoc d n first l (i+1) f,List.length_cons,List.append_assoc]
   rw [show i+1+l.length=i+(l.length+1) by omega]
theorem lineF_step (d:Dl) (n:Nat) (first:Bool) (r:List Str) (k:Nat) (hk:(k:Int) < r.length):lineF d n first 0 (r.take (k+1))=lineF d n first 0 (r.take k)++pieceM d n first k (r.getD k default):=by
 rw [takeD r k hk,lineF_snoc]
 simp only [List.length_take]
 rw [show 0+min k r.length=k by omega]
theorem lineF_len (d:Dl) (n:Nat) (first:Bool) (N:Nat):∀ (l:List Str) (i:Nat),(∀ f∈l,f.length≤N)→(lineF d n first i l).length≤l.length * (2 * N+3)
 | [],_,_=>by simp [lineF]
 | x :: l,i,h=>by
   have h1:=lineF_len d n first N l (i+1) (fun f hf=>h f (by simp [hf]))
   have h2:=wrM_len d x (decide (n=1)) (first && decide (i=0))
   have h3:=h x ze
   simp only [lineF,pieceM,List.length_append,List.length_cons]
   rw [Nat.add_mul]
   split<;>simp only [List.length_cons,List.length_nil]<;>omega
def endM (d:Dl):Str:=if d.e=2 then [13,10] else [10]
def lineM (d:Dl) (r:List Str) (first:Bool):Str:=lineF d r.length first 0 r++endM d
def mayR (r:List Str):Int:=if r=[] then 13 else if r.all validM=true then 0 else 14
theorem allV_step (r:List Str) (k:Nat) (hk:(k:Int) < r.length):(r.drop k).all validM=(validM (r.getD k default) && (r.drop (k+1)).all validM):=by
 rw [dropD r k hk];simp
end Go.Proofs.YtllanbmpacgigaaGreatDoor
