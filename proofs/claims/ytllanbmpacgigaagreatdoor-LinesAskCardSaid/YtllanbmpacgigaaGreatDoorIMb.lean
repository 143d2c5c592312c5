/- Texts of the proof, joined. -/
import Derived.Deep.DeepAppendWide
import Derived.Deep.AppendSrc
import Derived.MapKept
import Derived.Laws.MakeOwn
import Derived.WideMake
import Derived.Orders
import Derived.StillTail
import Derived.Deep.Quiet
import Derived.Test.YtllanbmpacgigaaGreatDoorIMa
namespace Go.Proofs.YtllanbmpacgigaaGreatDoor
set_option linter.unusedSimpArgs false
set_option linter.unusedVariables false
open Go.RowKit
section
variable {k k':IntKind} {a b:Int} {s t:List UInt8}
theorem okB_add:okB .add (.int k a) (.int k b)=True:=eq_true rfl
theorem okB_sub:okB .sub (.int k a) (.int k b)=True:=eq_true rfl
theorem okB_mul:okB .mul (.int k a) (.int k b)=True:=eq_true rfl
theorem okB_eql:okB .eql (.int k a) (.int k b)=True:=eq_true rfl
theorem okB_neq:okB .neq (.int k a) (.int k b)=True:=eq_true rfl
theorem okB_lss:okB .lss (.int k a) (.int k b)=True:=eq_true rfl
theorem okB_leq:okB .leq (.int k a) (.int k b)=True:=eq_true rfl
theorem okB_gtr:okB .gtr (.int k a) (.int k b)=True:=eq_true rfl
theorem okB_geq:okB .geq (.int k a) (.int k b)=True:=eq_true rfl
theorem valB_add:valB .add (.int k a) (.int k' b)=.int k (k.wrap (a+b)):=rfl
theorem valB_sub:valB .sub (.int k a) (.int k' b)=.int k (k.wrap (a - b)):=rfl
theorem valB_mul:valB .mul (.int k a) (.int k' b)=.int k (k.wrap (a * b)):=rfl
theorem valB_quo:valB .quo (.int k a) (.int k' b)=.int k (k.wrap (a.tdiv b)):=rfl
theorem valB_rem:valB .rem (.int k a) (.int k' b)=.int k (a.tmod b):=rfl
theorem valB_eql:valB .eql (.int k a) (.int k' b)=.bool (a == b):=rfl
theorem valB_neq:valB .neq (.int k a) (.int k' b)=.bool (a != b):=rfl
theorem valB_lss:valB .lss (.int k a) (.int k' b)=.bool (decide (a < b)):=rfl
theorem valB_leq:valB .leq (.int k a) (.int k' b)=.bool (decide (a≤b)):=rfl
theorem valB_gtr:valB .gtr (.int k a) (.int k' b)=.bool (decide (b < a)):=rfl
theorem valB_geq:valB .geq (.int k a) (.int k' b)=.bool (decide (b≤a)):=rfl
theorem okB_quo (h:b≠0):okB .quo (.int k a) (.int k b)=True:=eq_true ⟨rfl,h⟩
theorem okB_rem (h:b≠0):okB .rem (.int k a) (.int k b)=True:=eq_true ⟨rfl,h⟩
theorem okU_neg:okU .neg (.int k a)=True:=rfl
theorem okU_not {p:Bool}:okU .not (.bool p)=True:=rfl
theorem valU_neg:valU .neg (.int k a)=.int k (k.wrap (0 - a)):=rfl
theorem valU_not {p:Bool}:valU .not (.bool p)=.bool (!p):=rfl
theorem eqbV_t {p q:Bool}:eqbV true (.bool p) (.bool q)=.bool (!(p == q)):=rfl
theorem eqbV_f {p q:Bool}:eqbV false (.bool p) (.bool q)=.bool (p == q):=rfl
theorem cviV_i:cviV k' (.int k a)=.int k' (k'.wrap a):=rfl
theorem okE20 {x0 x1:Value}:okExt 0 (.tuple #[x0,x1])=True:=eq_true (by simp [okExt])
theorem exV20 {x0 x1:Value}:extV 0 (.tuple #[x0,x1])=x0:=rfl
theorem okE21 {x0 x1:Value}:okExt 1 (.tuple #[x0,x1])=True:=eq_true (by simp [okExt])
theorem exV21 {x0 x1:Value}:extV 1 (.tuple #[x0,x1])=x1:=rfl
theorem okE30 {x0 x1 x2:Value}:okExt 0 (.tuple #[x0,x1,x2])=True:=eq_true (by simp [okExt])
theorem exV30 {x0 x1 x2:Value}:extV 0 (.tuple #[x0,x1,x2])=x0:=rfl
theorem okE31 {x0 x1 x2:Value}:okExt 1 (.tuple #[x0,x1,x2])=True:=eq_true (by simp [okExt])
theorem exV31 {x0 x1 x2:Value}:extV 1 (.tuple #[x0,x1,x2])=x1:=rfl
theorem okE32 {x0 x1 x2:Value}:okExt 2 (.tuple #[x0,x1,x2])=True:=eq_true (by simp [okExt])
theorem exV32 {x0 x1 x2:Value}:extV 2 (.tuple #[x0,x1,x2])=x2:=rfl
theorem okE40 {x0 x1 x2 x3:Value}:okExt 0 (.tuple #[x0,x1,x2,x3])=True:=eq_true (by simp [okExt])
theorem exV40 {x0 x1 x2 x3:Value}:extV 0 (.tuple #[x0,x1,x2,x3])=x0:=rfl
theorem okE41 {x0 x1 x2 x3:Value}:okExt 1 (.tuple #[x0,x1,x2,x3])=True:=eq_true (by simp [okExt])
theorem exV41 {x0 x1 x2 x3:Value}:extV 1 (.tuple #[x0,x1,x2,x3])=x1:=rfl
theorem okE42 {x0 x1 x2 x3:Value}:okExt 2 (.tuple #[x0,x1,x2,x3])=True:=eq_true (by simp [okExt])
theorem exV42 {x0 x1 x2 x3:Value}:extV 2 (.tuple #[x0,x1,x2,x3])=x2:=rfl
theorem okE43 {x0 x1 x2 x3:Value}:okExt 3 (.tuple #[x0,x1,x2,x3])=True:=eq_true (by simp [okExt])
theorem exV43 {x0 x1 x2 x3:Value}:extV 3 (.tuple #[x0,x1,x2,x3])=x3:=rfl
theorem tdiv_pos (h:0≤a):a.tdiv b=a / b:=Int.tdiv_eq_ediv_of_nonneg h
theorem tmod_pos (h:0≤a):a.tmod b=a % b:=Int.tmod_eq_emod_of_nonneg h
theorem layL_n {cs:List Value}:layL cs []=cs:=rfl
theorem okLay_n {cs:List Value}:okLay cs []=True:=rfl
theorem evP_n {ρ:Fr}:evP ρ []=[]:=rfl
theorem evP_c {ρ:Fr} {o n:Nat} {x:Operand} {r:List (Nat×Nat×Operand)}:evP ρ ((o,n,x) :: r)=(o,n,ev ρ x) :: evP ρ r:=rfl
theorem okEqA_a {ks:List FK} {xs ys:List Value}:okEqA ks (.agg xs.toArray) (.agg ys.toArray)=okEqL ks xs ys:=rfl
theorem okEqL_n {xs ys:List Value}:okEqL [] xs ys=True:=by cases xs<;>cases ys<;>rfl
theorem okEqL_i {ks:List FK} {xs ys:List Value}:okEqL (.i :: ks) (.int k a :: xs) (.int k b :: ys)=okEqL ks xs ys:=by simp [okEqL]
theorem okEqL_s {ks:List FK} {xs ys:List Value}:okEqL (.s :: ks) (S s :: xs) (S t :: ys)=okEqL ks xs ys:=rfl
theorem okEqL_b {ks:List FK} {p q:Bool} {xs ys:List Value}:okEqL (.b :: ks) (.bool p :: xs) (.bool q :: ys)=okEqL ks xs ys:=rfl
theorem eqAV_t {ks:List FK} {xs ys:List Value}:eqAV true ks (.agg xs.toArray) (.agg ys.toArray)=.bool (!(eqL ks xs ys)):=rfl
theorem eqAV_f {ks:List FK} {xs ys:List Value}:eqAV false ks (.agg xs.toArray) (.agg ys.toArray)=.bool (eqL ks xs ys):=rfl
theorem eqL_n {xs ys:List Value}:eqL [] xs ys=true:=by cases xs<;>cases ys<;>rfl
theorem eqL_i {ks:List FK} {xs ys:List Value}:eqL (.i :: ks) (.int k a :: xs) (.int k' b :: ys)=((a == b) && eqL ks xs ys):=rfl
theorem eqL_s {ks:List FK} {xs ys:List Value}:eqL (.s :: ks) (S s :: xs) (S t :: ys)=((s == t) && eqL ks xs ys):=by simp [eqL,S]
theorem eqL_b {ks:List FK} {p q:Bool} {xs ys:List Value}:eqL (.b :: ks) (.bool p :: xs) (.bool q :: ys)=((p == q) && eqL ks xs ys):=rfl
theorem okB_addS (h:(s.length:Int)+t.length≤9223372036854775807):okB .add (S s) (S t)=True:=by
 simp only [okB,S,eq_iff_iff,iff_true]
 show s.toArray.size+t.toArray.size≤_
 simp;omega
theorem okB_eqlS:okB .eql (S s) (S t)=True:=rfl
theorem okB_neqS:okB .neq (S s) (S t)=True:=rfl
theorem okB_lssS:okB .lss (S s) (S t)=True:=rfl
theorem okB_leqS:okB .leq (S s) (S t)=True:=rfl
theorem okB_gtrS:okB .gtr (S s) (S t)=True:=rfl
theorem okB_geqS:okB .geq (S s) (S t)=True:=rfl
theorem valB_addS:valB .add (S s) (S t)=S (s++t):=by
 simp only [valB,S]
 congr 1
theorem valB_eqlS:valB .eql (S s) (S t)=.bool (s == t):=by simp [valB,S]
theorem valB_neqS:valB .neq (S s) (S t)=.bool (!(s == t)):=by simp [valB,S]
theorem valB_lssS:valB .lss (S s) (S t)=.bool (Op.bytesLess s t):=by simp [valB,S]
theorem valB_leqS:valB .leq (S s) (S t)=.bool (Op.bytesLess s t || s == t):=by simp [valB,S]
theorem valB_gtrS:valB .gtr (S s) (S t)=.bool (!(Op.bytesLess s t || s == t)):=by simp [valB,S]
theorem valB_geqS:valB .geq (S s) (S t)=.bool (!(Op.bytesLess s t)):=by simp [valB,S]
theorem isS_S:isS (S s)=True:=rfl
theorem lenV_S:lenV (S s)=.int .i64 (s.length:Nat):=by
 show Value.int .i64 ((s.toArray.size:Nat):Int)=_
 rw [List.size_toArray]
theorem okIdxS_S (h:0≤a∧a < (s.length:Nat)):okIdxS (S s) (.int k a)=True:=by
 simp only [okIdxS,S,eq_iff_iff,iff_true]
 show 0≤a∧a < ((s.toArray.size:Nat):Int)
 simpa using h
theorem idxSV_S:idxSV (S s) (.int k a)=.int .u8 ((s.getD a.toNat 0).toNat:Nat):=by
 simp only [idxSV,S]
theorem sizeS (s:List UInt8):(ByteArray.mk s.toArray).size=s.length:=by show s.toArray.size=_;simp
theorem okSlS_lh (h:0≤a∧a≤b∧b≤(s.length:Nat)):okSlS (some (.int k a)) (some (.int k' b)) (S s)=True:=by
 simp only [okSlS,S,okI,loN,hiN,sizeS,eq_iff_iff,iff_true,true_and];exact h
theorem okSlS_l (h:0≤a∧a≤(s.length:Nat)):okSlS (some (.int k a)) none (S s)=True:=by
 simp only [okSlS,S,okI,loN,hiN,sizeS,eq_iff_iff,iff_true,true_and];exact ⟨h.1,h.2,Int.le_refl _⟩
theorem okSlS_h (h:0≤b∧b≤(s.length:Nat)):okSlS none (some (.int k' b)) (S s)=True:=by
 simp only [okSlS,S,okI,loN,hiN,sizeS,eq_iff_iff,iff_true,true_and];exact ⟨Int.le_refl _,h⟩
theorem okSlS_n:okSlS none none (S s)=True:=by
 simp only [okSlS,S,okI,loN,hiN,sizeS,eq_iff_iff,iff_true,true_and];omega
theorem slSV_lh:slSV (some (.int k a)) (some (.int k' b)) (S s)=S ((s.drop a.toNat).take (b.toNat - a.toNat)):=by
 simp only [slSV,S,loN,hiN,ByteArray.extract_mk]
theorem slSV_l:slSV (some (.int k a)) none (S s)=S (s.drop a.toNat):=by
 simp only [slSV,S,loN,hiN,sizeS,ByteArray.extract_mk,Int.toNat_natCast]
 rw [List.take_of_length_le ze]
theorem slSV_h:slSV none (some (.int k' b)) (S s)=S (s.take b.toNat):=by
 simp only [slSV,S,loN,hiN,ByteArray.extract_mk];simp
theorem slSV_n:slSV none none (S s)=S s:=by
 simp only [slSV,S,loN,hiN,sizeS,ByteArray.extract_mk];simp
theorem pick_t {x y:Value}:pickV (.bool true) x y=x:=rfl
theorem pick_f {x y:Value}:pickV (.bool false) x y=y:=rfl
theorem pick_if {p:Bool} {x y:Value}:pickV (.bool p) x y=if p=true then x else y:=by cases p<;>rfl
theorem isB_b {p:Bool}:isB (.bool p)=True:=rfl
theorem isI_i:isI (.int k a)=True:=rfl
end
def toN:Value→Nat|.int _ n=>n.toNat|_=>0
theorem toN_i {k:IntKind} {a:Int}:toN (.int k a)=a.toNat:=rfl
def brO (P:Program) (K:Fr→World→Prop) (c:Bool) (l1:List ML) (ρ1:Fr) (l2:List ML) (ρ2:Fr) (w:World):Prop:=if c=true then O P K l1 ρ1 w else O P K l2 ρ2 w
def brQ (P:Program) (K:Fr→Prop) (w:World) (c:Bool) (l1:List ML) (ρ1:Fr) (l2:List ML) (ρ2:Fr):Prop:=if c=true then Q P K w l1 ρ1 else Q P K w l2 ρ2
section
variable {P:Program} {l1 l2:List ML} {ρ1 ρ2:Fr} {w:World} {c:Bool}
theorem brO_t {K:Fr→World→Prop}:brO P K true l1 ρ1 l2 ρ2 w=O P K l1 ρ1 w:=by simp [brO]
theorem brO_f {K:Fr→World→Prop}:brO P K false l1 ρ1 l2 ρ2 w=O P K l2 ρ2 w:=by simp [brO]
theorem brQ_t {K:Fr→Prop}:brQ P K w true l1 ρ1 l2 ρ2=Q P K w l1 ρ1:=by simp [brQ]
theorem brQ_f {K:Fr→Prop}:brQ P K w false l1 ρ1 l2 ρ2=Q P K w l2 ρ2:=by simp [brQ]
theorem brO_mk {K:Fr→World→Prop} (ha:c=true→O P K l1 ρ1 w) (hb:c=false→O P K l2 ρ2 w):brO P K c l1 ρ1 l2 ρ2 w:=by
 cases c
 ·rw [brO_f];exact hb rfl
 ·rw [brO_t];exact ha rfl
theorem brQ_mk {K:Fr→Prop} (ha:c=true→Q P K w l1 ρ1) (hb:c=false→Q P K w l2 ρ2):brQ P K w c l1 ρ1 l2 ρ2:=by
 cases c
 ·rw [brQ_f];exact hb rfl
 ·rw [brQ_t];exact ha rfl
end
section
variable {P:Program} {rest:List ML} {ρ:Fr} {w:World} {d:Option Nat}
theorem O_gt {K:Fr→World→Prop} (s:Nat) (b:Bool) (m:MO):O P K (⟨some (s,b),d,m⟩ :: rest) ρ w=brO P K (wantF (ρ s) b) (⟨none,d,m⟩ :: rest) ρ rest (updO ρ d undef) w:=O_g s b m
theorem Q_gt {K:Fr→Prop} (s:Nat) (b:Bool) (m:MO):Q P K w (⟨some (s,b),d,m⟩ :: rest) ρ=brQ P K w (wantF (ρ s) b) (⟨none,d,m⟩ :: rest) ρ rest (updO ρ d undef):=Q_g s b m
end
theorem wantF_u {b:Bool}:wantF undef b=false:=rfl
theorem wantF_b {p:Bool}:wantF (.bool p) true=p:=by cases p<;>rfl
theorem wantF_bf {p:Bool}:wantF (.bool p) false=!p:=by cases p<;>rfl
def Pu (P:Program) (f:Nat) (args:Array Value) (w:World) (X:Value):Prop:=Ret P f args w fun v w'=>v=X∧Ext w w'
section
variable {P:Program} {f:Nat} {args:List Value} {w:World} {d:Option Nat} {ρ:Fr}
theorem CallK.of {next:Fr→World→Prop} {V:Value→World→Prop} (h:Ret P f args.toArray w V) (k:∀ v w',V v w'→next (updO ρ d v) w'):CallK P f args w d ρ next:=h.mono k
theorem CallK.pu {next:Fr→World→Prop} {X:Value} (h:Pu P f args.toArray w X) (k:∀ w',Ext w w'→next (updO ρ d X) w'):CallK P f args w d ρ next :=
 Ret.mono h fun v w' ⟨hv,hw⟩=>by subst hv;exact k w' hw
end
variable {D:List Deferred}
def Blk (w:World) (g:Nat) (t:TypeId) (cs:Array Value):Prop:=w.heap[g]?=some (.cells cs t (0,0))
section
variable {w w':World} {g:Nat} {t:TypeId} {cs:Array Value}
theorem Blk.lt (h:Blk w g t cs):g < w.heap.size:=by
 rcases Nat.lt_or_ge g w.heap.size with hlt|hge
 ·exact hlt
 ·unfold Blk at h;rw [Array.getElem?_eq_none hge] at h;cases h
theorem Blk.cell (h:Blk w g t cs) (i:Nat):w.cell? ⟨g,i,none⟩=cs[i]?:=cell_of_row w g i cs t (0,0) h
theorem Blk.frozen (h:Blk w g t cs) (i:Nat):w.frozen? ⟨g,i,none⟩=false:=by
 unfold Blk at h
 simp [World.frozen?,h]
theorem Blk.new (w:World) (t:TypeId) (cs:Array Value):Blk (w.alloc (.cells cs t)) w.heap.size t cs:=heap_alloc_new w _
theorem Blk.ext (h:Blk w g t cs) (hx:Ext w w'):Blk w' g t cs:=(hx.block g h.lt).trans h
theorem Blk.set_ (h:Blk w g t cs) (i:Nat) (u:Value):Blk (w.setCell ⟨g,i,none⟩ u) g t (cs.setIfInBounds i u):=by
 unfold Blk at h ⊢
 simp [World.setCell,Array.getElem?_modify,h]
end
theorem add_blk (g i:Nat):(⟨g,0,none⟩:Addr).add i=⟨g,i,none⟩:=by
 unfold Addr.add
 split
 ·rename_i h;subst h;rfl
 ·simp
theorem b2s_new (w:World) (t:TypeId) (xs:List Int) (c:Nat):okB2s (w.alloc (.cells (xs.map (Value.int .u8)).toArray t)) (.slice (some ⟨w.heap.size,0,none⟩) xs.length c) ∧
 b2sV (w.alloc (.cells (xs.map (Value.int .u8)).toArray t)) (.slice (some ⟨w.heap.size,0,none⟩) xs.length c)=S (xs.map fun x=>UInt8.ofNat x.toNat):=by
 have hb:=Blk.new w t (xs.map (Value.int .u8)).toArray
 have hc:∀ j (hj:j < xs.length),(w.alloc (.cells (xs.map (Value.int .u8)).toArray t)).cell? ((⟨w.heap.size,0,none⟩:Addr).add j)=some (.int .u8 xs[j]):=fun j hj=>by
  rw [add_blk,hb.cell];simp [hj]
 refine ⟨fun j hj=>⟨_,hc j hj⟩,?_⟩
 simp only [b2sV]
 congr 1
 apply List.ext_getElem
 ·simp
 ·intro j h1 h2
  simp only [List.getElem_map,List.getElem_range,List.length_map,List.length_range] at h1 h2 ⊢
  rw [hc j h1];rfl
section
variable {w:World} {t:TypeId} {a b c d:Int}
theorem okB2s_1:okB2s (w.alloc (.cells [.int .u8 a].toArray t)) (.slice (some ⟨w.heap.size,0,none⟩) 1 1)=True:=eq_true (b2s_new w t [a] 1).1
theorem okB2s_2:okB2s (w.alloc (.cells [.int .u8 a,.int .u8 b].toArray t)) (.slice (some ⟨w.heap.size,0,none⟩) 2 2)=True:=eq_true (b2s_new w t [a,b] 2).1
theorem okB2s_3:okB2s (w.alloc (.cells [.int .u8 a,.int .u8 b,.int .u8 c].toArray t)) (.slice (some ⟨w.heap.size,0,none⟩) 3 3)=True:=eq_true (b2s_new w t [a,b,c] 3).1
theorem okB2s_4:okB2s (w.alloc (.cells [.int .u8 a,.int .u8 b,.int .u8 c,.int .u8 d].toArray t)) (.slice (some ⟨w.heap.size,0,none⟩) 4 4)=True:=eq_true (b2s_new w t [a,b,c,d] 4).1
theorem b2sV_1:b2sV (w.alloc (.cells [.int .u8 a].toArray t)) (.slice (some ⟨w.heap.size,0,none⟩) 1 1)=S [UInt8.ofNat a.toNat]:=(b2s_new w t [a] 1).2
theorem b2sV_2:b2sV (w.alloc (.cells [.int .u8 a,.int .u8 b].toArray t)) (.slice (some ⟨w.heap.size,0,none⟩) 2 2)=S [UInt8.ofNat a.toNat,UInt8.ofNat b.toNat]:=(b2s_new w t [a,b] 2).2
theorem b2sV_3:b2sV (w.alloc (.cells [.int .u8 a,.int .u8 b,.int .u8 c].toArray t)) (.slice (some ⟨w.heap.size,0,none⟩) 3 3)=S [UInt8.ofNat a.toNat,UInt8.ofNat b.toNat,UInt8.ofNat c.toNat]:=(b2s_new w t [a,b,c] 3).2
theorem b2sV_4:b2sV (w.alloc (.cells [.int .u8 a,.int .u8 b,.int .u8 c,.int .u8 d].toArray t)) (.slice (some ⟨w.heap.size,0,none⟩) 4 4)=S [UInt8.ofNat a.toNat,UInt8.ofNat b.toNat,UInt8.ofNat c.toNat,UInt8.ofNat d.toNat]:=(b2s_new w t [a,b,c,d] 4).2
end
def SemK (P:Program) (s:Sem Value) (w:World) (d:Option Nat) (ρ:Fr) (next:Fr→World→Prop):Prop:=∃ v w',s.run P w=.ok v w'∧next (updO ρ d v) w'
def UnitK (P:Program) (s:Sem Unit) (w:World) (d:Option Nat) (ρ:Fr) (next:Fr→World→Prop):Prop:=∃ w',s.run P w=.ok () w'∧next (updO ρ d undef) w'
def callVal (f:Value) (args:List Value):Sem Next:=do let d ←Deferred.ofValue f args.toArray;invoke d.target d.args
def CallV (P:Program) (f:Value) (args:List Value) (w:World) (d:Option Nat) (ρ:Fr) (next:Fr→World→Prop):Prop :=
 (∃ v w',(callVal f args).run P w=.ok (.value v) w'∧next (updO ρ d v) w')∨(∃ w',(callVal f args).run P w=.ok .skip w'∧next (updO ρ d undef) w') ∨
 ∃ g as w',(callVal f args).run P w=.ok (.enter g as) w'∧Ret P g as w' fun v w''=>next (updO ρ d v) w''
theorem zcv {P:Program} {g:Nat} {cap:Array Value} {args:List Value} {w:World} {d:Option Nat} {ρ:Fr} {next:Fr→World→Prop} (h:CallK P g (args++cap.toList) w d ρ next) (hf:ownFn P g=true:=by kernel_rfl):CallV P (.func (.func g) #[] cap) args w d ρ next:=by
 refine .inr (.inr ⟨g,(args++cap.toList).toArray,w,?_,h⟩)
 unfold ownFn at hf
 split at hf<;>try (simp at hf;done)
 rename_i fn hfn
 simp only [Bool.and_eq_true,Bool.not_eq_true',beq_eq_false_iff_ne,ne_eq] at hf
 obtain ⟨hb,hn⟩:=hf
 obtain ⟨b,hb⟩:=Option.isSome_iff_exists.1 hb
 simp [callVal,Deferred.ofValue,invoke,callFunc,hfn,hn,hb]
section
variable {P:Program} {d:Option Nat} {ρ:Fr} {w:World} {next:Fr→World→Prop}
theorem rawV {op:Op} {ty:TypeId} {s:Sem Value} (h:execOp (ev ρ) (opr op ty)=(do pure (Next.value (←s)))):RawK P op ty d ρ w next=SemK P s w d ρ next:=by
 unfold RawK SemK
 rw [h]
 simp only [Sem.run_bind]
 apply propext
 constructor
 ·rintro (⟨v,w',h1,h2⟩|⟨w',h1,h2⟩|⟨f,as,w',h1,_⟩)
  ·cases hr:s.run P w with
   | ok v' w2=>rw [hr] at h1;simp at h1;obtain ⟨rfl,rfl⟩:=h1;exact ⟨_,_,rfl,h2⟩
   | halt w2=>rw [hr] at h1;simp at h1
  ·cases hr:s.run P w with
   | ok v' w2=>rw [hr] at h1;simp at h1
   | halt w2=>rw [hr] at h1;simp at h1
  ·cases hr:s.run P w with
   | ok v' w2=>rw [hr] at h1;simp at h1
   | halt w2=>rw [hr] at h1;simp at h1
 ·rintro ⟨v,w',h1,h2⟩
  left
  exact ⟨v,w',by simp [h1],h2⟩
theorem rawU {op:Op} {ty:TypeId} {s:Sem Unit} (h:execOp (ev ρ) (opr op ty)=(do s;pure Next.skip)):RawK P op ty d ρ w next=UnitK P s w d ρ next:=by
 unfold RawK UnitK
 rw [h]
 simp only [Sem.run_bind]
 apply propext
 constructor
 ·rintro (⟨v,w',h1,h2⟩|⟨w',h1,h2⟩|⟨f,as,w',h1,_⟩)
  ·cases hr:s.run P w with
   | ok v' w2=>rw [hr] at h1;simp at h1
   | halt w2=>rw [hr] at h1;simp at h1
  ·cases hr:s.run P w with
   | ok v' w2=>rw [hr] at h1;simp at h1;subst h1;exact ⟨_,rfl,h2⟩
   | halt w2=>rw [hr] at h1;simp at h1
  ·cases hr:s.run P w with
   | ok v' w2=>rw [hr] at h1;simp at h1
   | halt w2=>rw [hr] at h1;simp at h1
 ·rintro ⟨w',h1,h2⟩
  right;left
  exact ⟨w',by simp [h1],h2⟩
end
section
variable {P:Program} {K:Fr→World→Prop} {rest:List ML} {ρ:Fr} {w:World} {d:Option Nat} {ty:TypeId}
theorem O_bi2 (b:Builtin) (x y:Operand) (ts:Array TypeId) (h:b=.append∨b=.copy∨b=.delete∨b=.max∨b=.min) :
 O P K (⟨none,d,.raw (.call ⟨.builtin b,#[x,y],ts⟩) ty⟩ :: rest) ρ w=SemK P (match b with
   | .append=>Builtin.append_ ts ty #[ev ρ x,ev ρ y]|.copy=>Builtin.copy_ ts ty #[ev ρ x,ev ρ y]|.delete=>Builtin.delete_ ts ty #[ev ρ x,ev ρ y]
   | .max=>Builtin.max_ ts ty #[ev ρ x,ev ρ y]|_=>Builtin.min_ ts ty #[ev ρ x,ev ρ y]) w d ρ (O P K rest):=by
 rw [O_raw]
 rcases h with rfl|rfl|rfl|rfl|rfl<;>exact rawV (by simp [execOp,resolve,invoke,builtin])
theorem O_app (x y:Operand) (ts:Array TypeId):O P K (⟨none,d,.raw (.call ⟨.builtin .append,#[x,y],ts⟩) ty⟩ :: rest) ρ w=SemK P (Builtin.append_ ts ty #[ev ρ x,ev ρ y]) w d ρ (O P K rest):=O_bi2 .append x y ts ze
theorem O_cpy (x y:Operand) (ts:Array TypeId):O P K (⟨none,d,.raw (.call ⟨.builtin .copy,#[x,y],ts⟩) ty⟩ :: rest) ρ w=SemK P (Builtin.copy_ ts ty #[ev ρ x,ev ρ y]) w d ρ (O P K rest):=O_bi2 .copy x y ts ze
theorem O_dlt (x y:Operand) (ts:Array TypeId):O P K (⟨none,d,.raw (.call ⟨.builtin .delete,#[x,y],ts⟩) ty⟩ :: rest) ρ w=SemK P (Builtin.delete_ ts ty #[ev ρ x,ev ρ y]) w d ρ (O P K rest):=O_bi2 .delete x y ts ze
theorem O_max (x y:Operand) (ts:Array TypeId):O P K (⟨none,d,.raw (.call ⟨.builtin .max,#[x,y],ts⟩) ty⟩ :: rest) ρ w=SemK P (Builtin.max_ ts ty #[ev ρ x,ev ρ y]) w d ρ (O P K rest):=O_bi2 .max x y ts ze
theorem O_min (x y:Operand) (ts:Array TypeId):O P K (⟨none,d,.raw (.call ⟨.builtin .min,#[x,y],ts⟩) ty⟩ :: rest) ρ w=SemK P (Builtin.min_ ts ty #[ev ρ x,ev ρ y]) w d ρ (O P K rest):=O_bi2 .min x y ts ze
theorem O_clr (x:Operand) (ts:Array TypeId):O P K (⟨none,d,.raw (.call ⟨.builtin .clear,#[x],ts⟩) ty⟩ :: rest) ρ w=SemK P (Builtin.clear_ ts ty #[ev ρ x]) w d ρ (O P K rest):=by
 rw [O_raw];exact rawV (by simp [execOp,resolve,invoke,builtin])
theorem O_len' (x:Operand) (ts:Array TypeId):O P K (⟨none,d,.raw (.call ⟨.builtin .len,#[x],ts⟩) ty⟩ :: rest) ρ w=SemK P (Builtin.len_ ts ty #[ev ρ x]) w d ρ (O P K rest):=by
 rw [O_raw];exact rawV (by simp [execOp,resolve,invoke,builtin])
theorem O_cap (x:Operand) (ts:Array TypeId):O P K (⟨none,d,.raw (.call ⟨.builtin .cap,#[x],ts⟩) ty⟩ :: rest) ρ w=SemK P (Builtin.cap_ ts ty #[ev ρ x]) w d ρ (O P K rest):=by
 rw [O_raw];exact rawV (by simp [execOp,resolve,invoke,builtin])
theorem O_cv (t:Nat) (xs:Array Operand) (ts:Array TypeId):O P K (⟨none,d,.raw (.call ⟨.value (.tmp t),xs,ts⟩) ty⟩ :: rest) ρ w=CallV P (ρ t) (xs.toList.map (ev ρ)) w d ρ (O P K rest):=by
 rw [O_raw]
 have h:execOp (ev ρ) (opr (.call ⟨.value (.tmp t),xs,ts⟩) ty)=callVal (ρ t) (xs.toList.map (ev ρ)):=by
  simp only [execOp,resolve,callVal,ev]
  congr 2
  rw [←List.map_toArray]
 unfold RawK CallV
 rw [h]
theorem O_mks (t:TypeId) (x y:Operand):O P K (⟨none,d,.raw (.makeSlice t x y) ty⟩ :: rest) ρ w=SemK P (Instr.makeSlice t (ev ρ x) (ev ρ y)) w d ρ (O P K rest):=by rw [O_raw];exact rawV rfl
theorem O_mkm (t:TypeId) (x:Option Operand):O P K (⟨none,d,.raw (.makeMap t x) ty⟩ :: rest) ρ w=SemK P (Instr.makeMap t (x.map (ev ρ))) w d ρ (O P K rest):=by rw [O_raw];exact rawV rfl
theorem O_lkp (t:TypeId) (x y:Operand) (c:Bool):O P K (⟨none,d,.raw (.lookup t x y c) ty⟩ :: rest) ρ w=SemK P (Instr.lookup t (ev ρ x) (ev ρ y) c) w d ρ (O P K rest):=by rw [O_raw];exact rawV rfl
theorem O_box (t:TypeId) (x:Operand):O P K (⟨none,d,.raw (.box t x) ty⟩ :: rest) ρ w=SemK P (Instr.box t (ev ρ x)) w d ρ (O P K rest):=by rw [O_raw];exact rawV rfl
theorem O_mkf (fn:Fn) (xs ys:Array Operand):O P K (⟨none,d,.raw (.makeFunc fn xs ys) ty⟩ :: rest) ρ w=SemK P (Instr.makeFunc fn (xs.map (ev ρ)) (ys.map (ev ρ))) w d ρ (O P K rest):=by rw [O_raw];exact rawV rfl
theorem O_men (t:TypeId) (x y:Operand):O P K (⟨none,d,.raw (.mapEntry t x y) ty⟩ :: rest) ρ w=SemK P (Instr.mapEntry t (ev ρ x) (ev ρ y)) w d ρ (O P K rest):=by rw [O_raw];exact rawV rfl
theorem O_slc (t:TypeId) (x:Operand) (lo hi mx:Option Operand):O P K (⟨none,d,.raw (.slice t x lo hi mx) ty⟩ :: rest) ρ w=SemK P (Instr.sliceAt t (ev ρ x) (lo.map (ev ρ)) (hi.map (ev ρ)) (mx.map (ev ρ))) w d ρ (O P K rest):=by rw [O_raw];exact rawV rfl
theorem O_cnv (s t:TypeId) (x:Operand):O P K (⟨none,d,.raw (.convert s t x) ty⟩ :: rest) ρ w=SemK P (convert s t (ev ρ x)) w d ρ (O P K rest):=by rw [O_raw];exact rawV rfl
theorem O_idx (t:TypeId) (x i:Operand):O P K (⟨none,d,.raw (.index t x i) ty⟩ :: rest) ρ w=SemK P (Instr.index t (ev ρ x) (ev ρ i)) w d ρ (O P K rest):=by rw [O_raw];exact rawV rfl
theorem O_ixa (t:TypeId) (x i:Operand):O P K (⟨none,d,.raw (.indexAddr t x i) ty⟩ :: rest) ρ w=SemK P (Instr.indexAt t (ev ρ x) (ev ρ i)) w d ρ (O P K rest):=by rw [O_raw];exact rawV rfl
theorem O_mkif (t:TypeId) (x:Operand):O P K (⟨none,d,.raw (.makeInterface t x) ty⟩ :: rest) ρ w=SemK P (Instr.makeInterface t (ev ρ x)) w d ρ (O P K rest):=by rw [O_raw];exact rawV rfl
theorem O_tas (x:Operand) (s t:TypeId) (c:Bool):O P K (⟨none,d,.raw (.typeAssert x s t c) ty⟩ :: rest) ρ w=SemK P (Instr.typeAssert (ev ρ x) s t c) w d ρ (O P K rest):=by rw [O_raw];exact rawV rfl
theorem O_mup (t:TypeId) (x y z:Operand):O P K (⟨none,d,.raw (.mapUpdate t x y z) ty⟩ :: rest) ρ w=UnitK P (Instr.mapUpdate t (ev ρ x) (ev ρ y) (ev ρ z)) w d ρ (O P K rest):=by rw [O_raw];exact rawU rfl
theorem O_est (t:TypeId) (x y z:Operand):O P K (⟨none,d,.raw (.entryStore t x y z) ty⟩ :: rest) ρ w=UnitK P (Instr.entryStore t (ev ρ x) (ev ρ y) (ev ρ z)) w d ρ (O P K rest):=by rw [O_raw];exact rawU rfl
theorem O_bop (op:BinOp) (t t':TypeId) (x y:Operand):O P K (⟨none,d,.raw (.binOp op t x y t') ty⟩ :: rest) ρ w=SemK P (do eqGuard op t x y (ev ρ x) (ev ρ y);binOp op t (ev ρ x) (ev ρ y)) w d ρ (O P K rest):=by rw [O_raw];exact rawV rfl
end
structure Enc (α:Type) where
 sz:Nat
 f:α→List Value
 len:∀ x,(f x).length=sz
abbrev Str:=List UInt8
def eS:Enc Str:=⟨1,fun s=>[S s],fun _=>rfl⟩
def eI:Enc Int:=⟨1,fun n=>[I n],fun _=>rfl⟩
def eU:Enc UInt8:=⟨1,fun c=>[U (c.toNat:Int)],fun _=>rfl⟩
def eB:Enc Bool:=⟨1,fun b=>[.bool b],fun _=>rfl⟩
def eV:Enc Value:=⟨1,fun v=>[v],fun _=>rfl⟩
class EncSz {α:Type} (e:Enc α) (n:outParam Nat):Prop where
 h:e.sz=n
instance : EncSz eS 1 := ⟨rfl⟩
instance : EncSz eI 1 := ⟨rfl⟩
instance : EncSz eU 1 := ⟨rfl⟩
instance : EncSz eB 1 := ⟨rfl⟩
instance : EncSz eV 1 := ⟨rfl⟩
theorem eS_f (s:Str):eS.f s=[S s]:=rfl
theorem eI_f (n:Int):eI.f n=[I n]:=rfl
theorem eU_f (c:UInt8):eU.f c=[U (c.toNat:Int)]:=rfl
theorem eB_f (b:Bool):eB.f b=[.bool b]:=rfl
theorem eV_f (v:Value):eV.f v=[v]:=rfl
def One (v:Value):Prop:=v.oneCell'=true
theorem flat_len {α:Type} (e:Enc α) (xs:List α):(xs.flatMap e.f).length=xs.length * e.sz:=by
 induction xs with
 | nil=>simp
 | cons x xs ih=>rw [List.flatMap_cons,List.length_append,e.len,ih,List.length_cons,Nat.add_mul];omega
theorem flat_at {α:Type} (e:Enc α):∀ (xs:List α) (i j:Nat) (hi:i < xs.length),j < e.sz→(xs.flatMap e.f)[i * e.sz+j]?=(e.f xs[i])[j]?:=by
 intro xs
 induction xs with
 | nil=>intro i j hi;simp at hi
 | cons x xs ih =>
   intro i j hi hj
   rw [List.flatMap_cons]
   cases i with
   | zero=>rw [List.getElem?_append_left (by rw [e.len];omega)];simp
   | succ i =>
     have e1:(i+1) * e.sz+j=(e.f x).length+(i * e.sz+j):=by rw [e.len,Nat.add_mul];omega
     rw [e1,List.getElem?_append_right zo,Nat.add_sub_cancel_left]
     simpa using ih i j (by simpa using hi) hj
def Rd {α:Type} (w:World) (e:Enc α) (v:Value) (xs:List α):Prop :=
 ∃ p cap,v=.slice p xs.length cap∧xs.length≤cap∧xs.length≤9223372036854775807∧(∀ u∈xs.flatMap e.f,One u) ∧
   (0 < xs.length→∃ a,p=some a∧∀ j u,(xs.flatMap e.f)[j]?=some u→w.cell? (a.add j)=some u)
theorem add_add (a:Addr) (i j:Nat) (h:a.spot=none):(a.add i).add j=a.add (i+j):=by
 obtain ⟨b,o,s⟩:=a
 simp only at h
 subst h
 unfold Addr.add
 by_cases h1:i=0
 ·subst h1;simp
 ·by_cases h2:j=0
  ·subst h2;simp [h1]
  ·have:¬ (i+j=0):=by omega
   simp [h1,h2,this,Nat.add_assoc]
theorem cell_spot {w:World} {a:Addr} {v:Value} (h:w.cell? a=some v):a.spot=none:=by
 unfold World.cell? at h
 split at h
 ·split at h
  ·simp at h
  ·rename_i h2;simpa using h2
 ·simp at h
section
variable {α:Type} {w w':World} {e:Enc α} {v:Value} {xs:List α} {k:IntKind} {i:Int} {n off:Nat}
theorem Rd.ext (h:Rd w e v xs) (hx:Ext w w'):Rd w' e v xs:=by
 obtain ⟨p,cap,h1,h2,h3,h4,h5⟩:=h
 refine ⟨p,cap,h1,h2,h3,h4,fun hn=>?_⟩
 obtain ⟨a,ha,hc⟩:=h5 hn
 exact ⟨a,ha,fun j u hj=>hx.cell (hc j u hj)⟩
theorem Rd.bd (h:Rd w e v xs):xs.length≤9223372036854775807:=by obtain ⟨p,cap,h1,h2,h3,_⟩:=h;exact h3
theorem Rd.one (h:Rd w e v xs):One v:=by obtain ⟨p,cap,rfl,_⟩:=h;simp [One,Value.oneCell']
theorem lenV_rd (h:Rd w e v xs):lenV v=I xs.length:=by obtain ⟨p,cap,rfl,_⟩:=h;rfl
theorem isL_rd (h:Rd w e v xs):isL v=True:=by obtain ⟨p,cap,rfl,_⟩:=h;rfl
theorem rd_addr (h:Rd w e v xs) (hi:0≤i∧i < (xs.length:Int)):∃ a cap,v=.slice (some a) xs.length cap∧(∀ j u,(xs.flatMap e.f)[j]?=some u→w.cell? (a.add j)=some u):=by
 obtain ⟨p,cap,rfl,_,_,_,h5⟩:=h
 obtain ⟨a,rfl,hc⟩:=h5 zo
 exact ⟨a,cap,rfl,hc⟩
theorem okAdr_rd (h:Rd w e v xs) (hi:0≤i∧i < (xs.length:Int)):okAdr v (.int k i)=True:=by
 obtain ⟨a,cap,rfl,_⟩:=rd_addr h hi
 simp [okAdr,hi]
theorem rd_cell [Inhabited α] (h:Rd w e v xs) (hi:0≤i∧i < (xs.length:Int)):∃ a,adrV e.sz v (.int k i)=.pointer (some a)∧∀ j,j < e.sz→w.cell? (a.add j)=(e.f (xs.getD i.toNat default))[j]?:=by
 obtain ⟨a,cap,rfl,hc⟩:=rd_addr h hi
 refine ⟨_,rfl,fun j hj=>?_⟩
 have hi2:i.toNat < xs.length:=by omega
 have h1:=flat_at e xs i.toNat j hi2 hj
 have h3:j < (e.f xs[i.toNat]).length:=by rw [e.len];exact hj
 have h2:(xs.flatMap e.f)[i.toNat * e.sz+j]?=some (e.f xs[i.toNat])[j]:=by rw [h1,List.getElem?_eq_getElem h3]
 have h4:=hc _ _ h2
 have hsp:a.spot=none:=by
  have h0:(xs.flatMap e.f)[0]?=some ((xs.flatMap e.f)[0]'(by rw [flat_len];exact Nat.mul_pos zo zo)):=List.getElem?_eq_getElem _
  have:=hc _ _ h0
  simpa [Addr.add] using cell_spot this
 rw [add_add a _ _ hsp,h4]
 simp only [List.getD_eq_getElem?_getD,List.getElem?_eq_getElem hi2,Option.getD_some,List.getElem?_eq_getElem h3]
theorem add_0 (a:Addr):a.add 0=a:=by simp [Addr.add]
theorem rd_cell0 [Inhabited α] (h:Rd w e v xs) (hs:e.sz=1) (hi:0≤i∧i < (xs.length:Int)):∃ a,adrV 1 v (.int k i)=.pointer (some a)∧w.cell? a=some ((e.f (xs.getD i.toNat default)).getD 0 undef):=by
 obtain ⟨a,ha,hc⟩:=rd_cell (k:=k) h hi
 rw [hs] at ha
 refine ⟨a,ha,?_⟩
 have:=hc 0 zo
 rw [add_0] at this
 rw [this]
 have h3:0 < (e.f (xs.getD i.toNat default)).length:=by rw [e.len];omega
 generalize e.f (xs.getD i.toNat default)=z at *
 rw [List.getD_eq_getElem?_getD,List.getElem?_eq_getElem h3];rfl
theorem okLd1_rd (h:Rd w e v xs) (hs:e.sz=1) (hi:0≤i∧i < (xs.length:Int)) [Inhabited α]:okLd w none (adrV 1 v (.int k i))=True:=by
 obtain ⟨a,ha,hc⟩:=rd_cell0 (k:=k) h hs hi
 rw [ha];simp [okLd,hc]
theorem ldV1_rd (h:Rd w e v xs) (hs:e.sz=1) (hi:0≤i∧i < (xs.length:Int)) [Inhabited α]:ldV w none (adrV 1 v (.int k i))=(e.f (xs.getD i.toNat default)).getD 0 undef:=by
 obtain ⟨a,ha,hc⟩:=rd_cell0 (k:=k) h hs hi
 rw [ha];simp [ldV,hc]
theorem okLdN_rd (h:Rd w e v xs) (hs:e.sz=n) (hi:0≤i∧i < (xs.length:Int)) [Inhabited α]:okLd w (some n) (adrV n v (.int k i))=True:=by
 subst hs
 obtain ⟨a,ha,hc⟩:=rd_cell (k:=k) h hi
 rw [ha]
 refine eq_true fun j hj=>?_
 rw [hc j hj,List.getElem?_eq_getElem (by rw [e.len];exact hj)];rfl
theorem ldVN_rd (h:Rd w e v xs) (hs:e.sz=n) (hi:0≤i∧i < (xs.length:Int)) [Inhabited α]:ldV w (some n) (adrV n v (.int k i))=.agg (e.f (xs.getD i.toNat default)).toArray:=by
 subst hs
 obtain ⟨a,ha,hc⟩:=rd_cell (k:=k) h hi
 rw [ha]
 simp only [ldV]
 congr 2
 apply List.ext_getElem
 ·simp [e.len]
 ·intro j h1 h2
  simp only [List.getElem_map,List.getElem_range]
  rw [e.len] at h2
  rw [hc j h2,List.getElem?_eq_getElem (by rw [e.len];exact h2)];rfl
theorem okFad_rd (h:Rd w e v xs) (hi:0≤i∧i < (xs.length:Int)):okFad (adrV n v (.int k i))=True:=by
 obtain ⟨a,cap,rfl,_⟩:=rd_addr h hi
 rfl
theorem okLdF_rd (h:Rd w e v xs) (hs:e.sz=n) (ho:off < n) (hi:0≤i∧i < (xs.length:Int)) [Inhabited α]:okLd w none (fadV off (adrV n v (.int k i)))=True:=by
 subst hs
 obtain ⟨a,ha,hc⟩:=rd_cell (k:=k) h hi
 rw [ha];simp [okLd,fadV,hc off ho,e.len,ho]
theorem ldVF_rd (h:Rd w e v xs) (hs:e.sz=n) (ho:off < n) (hi:0≤i∧i < (xs.length:Int)) [Inhabited α]:ldV w none (fadV off (adrV n v (.int k i)))=(e.f (xs.getD i.toNat default)).getD off undef:=by
 subst hs
 obtain ⟨a,ha,hc⟩:=rd_cell (k:=k) h hi
 rw [ha];simp [ldV,fadV,hc off ho]
end
section
variable {w:World} {g o off n:Nat} {t:TypeId} {cs l:List Value}
theorem okFad_p:okFad (.pointer (some ⟨g,o,none⟩))=True:=rfl
theorem fadV_p:fadV off (.pointer (some ⟨g,o,none⟩))=.pointer (some ⟨g,o+off,none⟩):=by
 simp only [fadV,Addr.add]
 split
 ·rename_i h;subst h;rfl
 ·rfl
theorem okAdA_p {i:Int} {k:IntKind} (h:0≤i∧i < (n:Nat)):okAdA n (.pointer (some ⟨g,o,none⟩)) (.int k i)=True:=eq_true h
theorem adAV_p {i:Int} {k:IntKind}:adAV n (.pointer (some ⟨g,o,none⟩)) (.int k i)=.pointer (some ⟨g,o+i.toNat * n,none⟩):=by
 simp only [adAV,Addr.add]
 split
 ·rename_i h;rw [h];rfl
 ·rfl
theorem okLd_b (h:Blk w g t cs.toArray) (ho:o < cs.length):okLd w none (.pointer (some ⟨g,o,none⟩))=True:=by
 simp [okLd,h.cell,ho]
theorem ldV_b (h:Blk w g t cs.toArray):ldV w none (.pointer (some ⟨g,o,none⟩))=cs.getD o undef:=by
 simp [ldV,h.cell]
theorem addg (g o i:Nat):(⟨g,o,none⟩:Addr).add i=⟨g,o+i,none⟩:=by
 unfold Addr.add
 split
 ·rename_i h;subst h;rfl
 ·rfl
theorem okLdN_b (h:Blk w g t cs.toArray) (ho:o+n≤cs.length):okLd w (some n) (.pointer (some ⟨g,o,none⟩))=True:=by
 refine eq_true fun j hj=>?_
 rw [addg,h.cell];simp;omega
theorem ldVN_b (h:Blk w g t cs.toArray) (ho:o+n≤cs.length):ldV w (some n) (.pointer (some ⟨g,o,none⟩))=.agg ((cs.drop o).take n).toArray:=by
 simp only [ldV,addg,h.cell]
 congr 2
 apply List.ext_getElem
 ·simp;omega
 ·intro j h1 h2
  simp at h1 h2 ⊢
  rw [List.getElem?_eq_getElem zo];rfl
theorem okFld_1 (ho:off < l.length):okFld off none (.agg l.toArray)=True:=by simp [okFld,ho]
theorem fldV_1:fldV off none (.agg l.toArray)=l.getD off undef:=by simp [fldV]
theorem okFld_n (ho:off+n≤l.length):okFld off (some n) (.agg l.toArray)=True:=by simp [okFld,ho]
theorem fldV_n:fldV off (some n) (.agg l.toArray)=.agg ((l.drop off).take n).toArray:=by simp [fldV]
theorem cells_agg:(Value.agg l.toArray).cells=l.toArray:=rfl
def setL (cs:List Value):Nat→List Value→List Value
 | _,[]=>cs
 | o,x :: l=>setL (cs.set o x) (o+1) l
theorem setL_n (cs:List Value) (o:Nat):setL cs o []=cs:=rfl
theorem setL_c (cs:List Value) (o:Nat) (x:Value) (l:List Value):setL cs o (x :: l)=setL (cs.set o x) (o+1) l:=rfl
theorem fold_setL (o:Nat):∀ (l:List Value) (k:Nat) (cs:List Value),(l.zipIdx k).foldl (fun c p=>c.set (o+p.2) p.1) cs=setL cs (o+k) l:=by
 intro l
 induction l with
 | nil=>intro k cs;rfl
 | cons x l ih=>intro k cs;simp only [List.zipIdx_cons,List.foldl_cons,setL];exact ih (k+1) _
theorem layL_a {r:List (Nat×Nat×Value)}:layL cs ((o,n,.agg l.toArray) :: r)=layL (setL cs o l) r:=by
 simp only [layL,Value.cells]
 rw [fold_setL];rfl
theorem okLay_a {r:List (Nat×Nat×Value)}:okLay cs ((o,n,.agg l.toArray) :: r)=((l.length=n∧o+n≤cs.length)∧okLay cs r):=by simp [okLay,Value.cells]
theorem one_cells {v:Value} (h:One v):v.cells=#[v]:=by cases v<;>simp [One,Value.oneCell'] at h<;>rfl
theorem layL_o {v:Value} {r:List (Nat×Nat×Value)} (h:One v):layL cs ((o,n,v) :: r)=layL (cs.set o v) r:=by simp [layL,one_cells h]
theorem okLay_o {v:Value} {r:List (Nat×Nat×Value)} (h:One v):okLay cs ((o,n,v) :: r)=((1=n∧o+n≤cs.length)∧okLay cs r):=by simp [okLay,one_cells h]
class OneI (v:Value):Prop where
 h:One v
theorem one_i {k:IntKind} {a:Int}:One (.int k a):=by simp [One,Value.oneCell']
theorem one_s {s:List UInt8}:One (S s):=by simp [One,Value.oneCell',S]
theorem one_b {b:Bool}:One (.bool b):=by simp [One,Value.oneCell']
theorem one_p {a:Option Addr}:One (.pointer a):=by simp [One,Value.oneCell']
theorem one_l {a:Option Addr} {n c:Nat}:One (.slice a n c):=by simp [One,Value.oneCell']
theorem one_m {a:Option Nat}:One (.map a):=by simp [One,Value.oneCell']
theorem one_f {f:Fn} {a b:Array Value}:One (.func f a b):=by simp [One,Value.oneCell']
instance {k : IntKind} {a : Int} : OneI (.int k a) := ⟨one_i⟩
instance {s : List UInt8} : OneI (S s) := ⟨one_s⟩
instance {b : Bool} : OneI (.bool b) := ⟨one_b⟩
instance {a : Option Addr} : OneI (.pointer a) := ⟨one_p⟩
instance {a : Option Addr} {n c : Nat} : OneI (.slice a n c) := ⟨one_l⟩
instance {a : Option Nat} : OneI (.map a) := ⟨one_m⟩
instance {f : Fn} {a b : Array Value} : OneI (.func f a b) := ⟨one_f⟩
end
structure Chk where
 ok:World→(Nat→Prop)→Prop
 loc:∀ {w w':World} {F:Nat→Prop},(∀ b,F b→b < w.heap.size∧w'.heap[b]?=w.heap[b]?)→ok w F→ok w' F
def SepL (w:World) (lo:Nat):List Chk→(Nat→Prop)→Prop
 | [],_=>True
 | c :: L,B=>∃ F,c.ok w F∧(∀ b,F b→lo≤b∧b < w.heap.size∧¬ B b)∧SepL w lo L (fun b=>B b∨F b)
structure Sep (w0 w:World) (L:List Chk):Prop where
 x:Ext w0 w
 s:SepL w w0.heap.size L (fun _=>False)
inductive Ex (c:Chk):List Chk→List Chk→Prop
 | h {R:List Chk}:Ex c (c :: R) R
 | t {d:Chk} {L R:List Chk}:Ex c L R→Ex c (d :: L) (d :: R)
inductive Up (c c':Chk):List Chk→List Chk→Prop
 | h {R:List Chk}:Up c c' (c :: R) (c' :: R)
 | t {d:Chk} {L R:List Chk}:Up c c' L R→Up c c' (d :: L) (d :: R)
inductive Sub:List Chk→List Chk→Prop
 | n {L:List Chk}:Sub [] L
 | c {c:Chk} {L R M:List Chk}:Ex c L R→Sub M R→Sub (c :: M) L
theorem Up.split {c c':Chk} {L L':List Chk} (h:Up c c' L L'):∃ R,Ex c L R∧Ex c' L' R:=by
 induction h with
 | h=>exact ⟨_,.h,.h⟩
 | t _ ih=>obtain ⟨R,h1,h2⟩:=ih;exact ⟨_,.t h1,.t h2⟩
section
variable {w w' w0:World} {lo:Nat} {L L' R:List Chk} {c c':Chk}
theorem SepL.mono:∀ {L:List Chk} {B B':Nat→Prop},SepL w lo L B→(∀ b,B' b→B b)→SepL w lo L B'
 | [],_,_,_,_=>trivial
 | c :: L,B,B',⟨F,h1,h2,h3⟩,hb=>⟨F,h1,fun b hf=>⟨(h2 b hf).1,(h2 b hf).2.1,fun hb'=>(h2 b hf).2.2 (hb b hb')⟩,SepL.mono h3 fun b hh=>hh.imp (hb b) id⟩
theorem SepL.far:∀ {L:List Chk} {B:Nat→Prop},SepL w lo L B→(∀ b,lo≤b→b < w.heap.size→¬ B b→w'.heap[b]?=w.heap[b]?)→w.heap.size≤w'.heap.size→SepL w' lo L B
 | [],_,_,_,_=>trivial
 | c :: L,B,⟨F,h1,h2,h3⟩,hb,hs =>
   ⟨F,c.loc (fun b hf=>⟨(h2 b hf).2.1,hb b (h2 b hf).1 (h2 b hf).2.1 (h2 b hf).2.2⟩) h1,fun b hf=>⟨(h2 b hf).1,by have:=(h2 b hf).2.1;omega,(h2 b hf).2.2⟩,SepL.far h3 (fun b h4 h5 h6=>hb b h4 h5 fun hB=>h6 (.inl hB)) hs⟩
theorem SepL.take (he:Ex c L R):∀ {B:Nat→Prop},SepL w lo L B→∃ F,c.ok w F∧(∀ b,F b→lo≤b∧b < w.heap.size∧¬ B b)∧SepL w lo R (fun b=>B b∨F b):=by
 induction he with
 | h=>intro B h;exact h
 | t _ ih =>
   rintro B ⟨F,h1,h2,h3⟩
   obtain ⟨G,g1,g2,g3⟩:=ih h3
   refine ⟨G,g1,fun b hb=>⟨(g2 b hb).1,(g2 b hb).2.1,fun hB=>(g2 b hb).2.2 (.inl hB)⟩,F,h1,fun b hb=>⟨(h2 b hb).1,(h2 b hb).2.1,fun hB=>?_⟩,SepL.mono g3 ?_⟩
   ·rcases hB with hB|hB
    ·exact (h2 b hb).2.2 hB
    ·exact (g2 b hB).2.2 (.inr hb)
   ·rintro b ((h|h)|h)
    ·exact .inl (.inl h)
    ·exact .inr h
    ·exact .inl (.inr h)
theorem SepL.give (he:Ex c L R):∀ {B F:Nat→Prop},c.ok w F→(∀ b,F b→lo≤b∧b < w.heap.size∧¬ B b)→SepL w lo R (fun b=>B b∨F b)→SepL w lo L B:=by
 induction he with
 | h=>intro B F h1 h2 h3;exact ⟨F,h1,h2,h3⟩
 | t _ ih =>
   rintro B F h1 h2 ⟨G,g1,g2,g3⟩
   refine ⟨G,g1,fun b hb=>⟨(g2 b hb).1,(g2 b hb).2.1,fun hB=>(g2 b hb).2.2 (.inl hB)⟩,?_⟩
   refine ih (F:=F) h1 (fun b hb=>⟨(h2 b hb).1,(h2 b hb).2.1,fun hB=>?_⟩) (SepL.mono g3 ?_)
   ·rcases hB with hB|hB
    ·exact (h2 b hb).2.2 hB
    ·exact (g2 b hB).2.2 (.inr hb)
   ·rintro b ((h|h)|h)
    ·exact .inl (.inl h)
    ·exact .inr h
    ·exact .inl (.inr h)
theorem Sep.start (w:World):Sep w w []:=⟨Ext.refl w,trivial⟩
theorem Sep.xt (h:Sep w0 w L):Ext w0 w:=h.1
theorem Sep.ext (h:Sep w0 w L) (hx:Ext w w'):Sep w0 w' L:=⟨h.1.trans hx,SepL.far h.2 (fun b _ h2 _=>hx.block b h2) hx.size⟩
theorem Sep.get (h:Sep w0 w L) (he:Ex c L R):∃ F,c.ok w F∧∀ b,F b→w0.heap.size≤b∧b < w.heap.size:=by
 obtain ⟨F,h1,h2,_⟩:=SepL.take he h.2
 exact ⟨F,h1,fun b hb=>⟨(h2 b hb).1,(h2 b hb).2.1⟩⟩
theorem Sep.drop (h:Sep w0 w L) (he:Ex c L R):Sep w0 w R:=by
 obtain ⟨F,h1,h2,h3⟩:=SepL.take he h.2
 exact ⟨h.1,SepL.mono h3 fun b hb=>.inl hb⟩
theorem Sep.push (h:Sep w0 w L) (hx:Ext w w') {F:Nat→Prop} (hc:c.ok w' F) (hF:∀ b,F b→w.heap.size≤b∧b < w'.heap.size):Sep w0 w' (c :: L):=by
 have hs:=h.1.size
 refine ⟨h.1.trans hx,F,hc,fun b hb=>⟨by have:=hF b hb;omega,(hF b hb).2,id⟩,?_⟩
 have hh:∀ {L:List Chk} {B:Nat→Prop},SepL w w0.heap.size L B→SepL w w0.heap.size L (fun b=>B b∨F b):=by
  intro L
  induction L with
  | nil=>intro _ _;trivial
  | cons d L ih =>
    rintro B ⟨G,g1,g2,g3⟩
    refine ⟨G,g1,fun b hb=>⟨(g2 b hb).1,(g2 b hb).2.1,fun hB=>?_⟩,SepL.mono (ih g3) ?_⟩
    ·rcases hB with hB|hB
     ·exact (g2 b hb).2.2 hB
     ·have h5:=hF b hB;have h6:=(g2 b hb).2.1;omega
    ·rintro b ((h|h)|h)
     ·exact .inl (.inl h)
     ·exact .inr h
     ·exact .inl (.inr h)
 exact SepL.far (hh h.2) (fun b _ h2 _=>hx.block b h2) hx.size
theorem Sep.change (h:Sep w0 w L) (hu:Up c c' L L') (hs:w.heap.size≤w'.heap.size) (ho:w'.os=w.os) (ht:w'.tape=w.tape) (hp:w'.output=w.output)
 (hc:∀ F,c.ok w F→(∀ b,F b→b < w.heap.size)→∃ F',c'.ok w' F'∧(∀ b,F' b→b < w'.heap.size∧(F b∨w.heap.size≤b))∧∀ b,b < w.heap.size→¬ F b→w'.heap[b]?=w.heap[b]?):Sep w0 w' L':=by
 obtain ⟨R,e1,e2⟩:=hu.split
 obtain ⟨F,h1,h2,h3⟩:=SepL.take e1 h.2
 obtain ⟨F',f1,f2,f3⟩:=hc F h1 fun b hb=>(h2 b hb).2.1
 have hs0:=h.1.size
 refine ⟨⟨ho.trans h.1.os,ht.trans h.1.tape,hp.trans h.1.output,Nat.le_trans h.1.size hs,fun b hb=>?_⟩,?_⟩
 ·rw [f3 b zo fun hF=>by have:=(h2 b hF).1;omega]
  exact h.1.block b hb
 ·refine SepL.give e2 f1 (fun b hb=>⟨?_,(f2 b hb).1,id⟩) ?_
  ·rcases (f2 b hb).2 with hh|hh
   ·exact (h2 b hh).1
   ·omega
  ·have g : ∀ {R:List Chk} {B:Nat→Prop},SepL w w0.heap.size R (fun b=>B b∨F b)→SepL w' w0.heap.size R (fun b=>B b∨F' b):=by
    intro R
    induction R with
    | nil=>intro _ _;trivial
    | cons d R ih =>
      rintro B ⟨G,g1,g2,g3⟩
      refine ⟨G,d.loc (fun b hb=>⟨(g2 b hb).2.1,f3 b (g2 b hb).2.1 fun hF=>(g2 b hb).2.2 (.inr hF)⟩) g1,fun b hb=>⟨(g2 b hb).1,by have:=(g2 b hb).2.1;omega,fun hB=>?_⟩,?_⟩
      ·rcases hB with hB|hB
       ·exact (g2 b hb).2.2 (.inl hB)
       ·rcases (f2 b hB).2 with hh|hh
        ·exact (g2 b hb).2.2 (.inr hh)
        ·have:=(g2 b hb).2.1;omega
      ·refine SepL.mono (ih (B:=fun b=>B b∨G b) (SepL.mono g3 ?_)) ?_
       ·rintro b ((h|h)|h)
        ·exact .inl (.inl h)
        ·exact .inr h
        ·exact .inl (.inr h)
       ·rintro b ((h|h)|h)
        ·exact .inl (.inl h)
        ·exact .inr h
        ·exact .inl (.inr h)
   exact g h3
theorem SepL.app:∀ {L':List Chk} {B:Nat→Prop},SepL w' w.heap.size L' B→∀ {lo:Nat} {L:List Chk},lo≤w.heap.size→SepL w lo L B→Ext w w'→SepL w' lo (L'++L) B
 | [],B,_,lo,L,_,h,hx=>SepL.far h (fun b _ h2 _=>hx.block b h2) hx.size
 | c :: L',B,⟨F,h1,h2,h3⟩,lo,L,hlo,h,hx=>by
   refine ⟨F,h1,fun b hb=>⟨by have:=(h2 b hb).1;omega,(h2 b hb).2.1,(h2 b hb).2.2⟩,SepL.app h3 hlo ?_ hx⟩
   have hh:∀ {L:List Chk} {B:Nat→Prop},SepL w lo L B→SepL w lo L (fun b=>B b∨F b):=by
    intro L
    induction L with
    | nil=>intro _ _;trivial
    | cons d L ih =>
      rintro B ⟨G,g1,g2,g3⟩
      refine ⟨G,g1,fun b hb=>⟨(g2 b hb).1,(g2 b hb).2.1,fun hB=>?_⟩,SepL.mono (ih g3) ?_⟩
      ·rcases hB with hB|hB
       ·exact (g2 b hb).2.2 hB
       ·have h5:=(h2 b hB).1;have h6:=(g2 b hb).2.1;omega
      ·rintro b ((h|h)|h)
       ·exact .inl (.inl h)
       ·exact .inr h
       ·exact .inl (.inr h)
   exact hh h
theorem Sep.app (h:Sep w0 w L) (h':Sep w w' L'):Sep w0 w' (L'++L):=⟨h.1.trans h'.1,SepL.app h'.2 h.1.size h.2 h'.1⟩
theorem SepL.sub {M:List Chk} (hs:Sub M L):∀ {B:Nat→Prop},SepL w lo L B→SepL w lo M B:=by
 induction hs with
 | n=>intro _ _;trivial
 | c he _ ih =>
   intro B h
   obtain ⟨F,h1,h2,h3⟩:=SepL.take he h
   exact ⟨F,h1,h2,ih h3⟩
theorem Sep.sub {M:List Chk} (h:Sep w0 w L) (hs:Sub M L):Sep w0 w M:=⟨h.1,SepL.sub hs h.2⟩
theorem Rd.old {α:Type} {e:Enc α} {v:Value} {xs:List α} (h:Rd w0 e v xs) (hS:Sep w0 w L):Rd w e v xs:=h.ext hS.1
theorem Blk.old {g:Nat} {t:TypeId} {cs:List Value} (h:Blk w0 g t cs.toArray) (hS:Sep w0 w L):Blk w g t cs.toArray:=h.ext hS.1
end
def boxC (g:Nat) (t:TypeId) (cs:List Value):Chk where
 ok w F:=F g∧Blk w g t cs.toArray
 loc:=fun hb ⟨h1,h2⟩=>⟨h1,(hb g h1).2.trans h2⟩
def accC {α:Type} (v:Value) (t:TypeId) (e:Enc α) (xs:List α):Chk where
 ok w F:=w.ownsRow 0 t e.sz v xs.length (xs.flatMap e.f)∧(∀ g,v.ownBlock=some g→F g)∧(∀ u∈xs.flatMap e.f,One u)∧xs.length≤9223372036854775807
 loc:=by
  intro w w' F hb ⟨h1,h2,h3,h4⟩
  refine ⟨⟨h1.1,?_⟩,h2,h3,h4⟩
  rcases h1.2 with h|⟨g,cap,cur,hv,hg,hh,hr⟩
  ·exact .inl h
  ·exact .inr ⟨g,cap,cur,hv,hg,(hb g (h2 g (by rw [hv];rfl))).2.trans hh,hr⟩
section
variable {w w' w0:World} {L L' R:List Chk} {g:Nat} {t:TypeId} {cs:List Value} {v:Value}
theorem Sep.blk (h:Sep w0 w L) (he:Ex (boxC g t cs) L R):Blk w g t cs.toArray:=by
 obtain ⟨F,h1,_⟩:=h.get he
 exact h1.2
theorem own_rd {α:Type} {e:Enc α} {xs:List α} (h:w.ownsRow 0 t e.sz v xs.length (xs.flatMap e.f)) (h1:∀ u∈xs.flatMap e.f,One u) (h2:xs.length≤9223372036854775807):Rd w e v xs:=by
 rcases h.2 with ⟨hv,hn⟩|⟨g,cap,cur,hv,hg,hh,hc,_,_,_⟩
 ·exact ⟨none,0,by rw [hv,hn],by omega,h2,h1,fun h0=>by omega⟩
 ·refine ⟨some ⟨g,0,none⟩,cap,hv,hc,h2,h1,fun _=>⟨_,rfl,fun j u hj=>h.cells (g:=g) (by rw [hv];rfl) j u hj⟩⟩
theorem Sep.rd {α:Type} {e:Enc α} {xs:List α} (h:Sep w0 w L) (he:Ex (accC v t e xs) L R):Rd w e v xs:=by
 obtain ⟨F,⟨h1,_,h3,h4⟩,_⟩:=h.get he
 exact own_rd h1 h3 h4
theorem Sep.accOne {α:Type} {e:Enc α} {xs:List α} (h:Sep w0 w L) (he:Ex (accC v t e xs) L R):One v:=(h.rd he).one
theorem Sep.alloc (h:Sep w0 w L) (t:TypeId) (cs:List Value):Sep w0 (w.alloc (.cells cs.toArray t)) (boxC w.heap.size t cs :: L) :=
 h.push ((Ext.refl w).alloc _) (F:=fun b=>b=w.heap.size) ⟨rfl,Blk.new w t cs.toArray⟩ (by intro b hb;subst hb;exact ⟨Nat.le_refl _,by simp⟩)
theorem stL_Blk {g o:Nat}:∀ (l:List Value) (i:Nat) (w:World) (cs:List Value),Blk w g t cs.toArray→Blk (stL w ⟨g,o,none⟩ l i) g t (setL cs (o+i) l).toArray
 | [],i,w,cs,h=>h
 | v :: l,i,w,cs,h=>by
   have h1:=h.set_ (o+i) v
   rw [List.setIfInBounds_toArray] at h1
   simp only [stL,setL,addg]
   exact stL_Blk l (i+1) _ _ h1
theorem stL_size {p:Addr}:∀ (l:List Value) (i:Nat) (w:World),(stL w p l i).heap.size=w.heap.size∧(stL w p l i).os=w.os∧(stL w p l i).tape=w.tape∧(stL w p l i).output=w.output
 | [],_,_=>⟨rfl,rfl,rfl,rfl⟩
 | v :: l,i,w=>by
   obtain ⟨h1,h2,h3,h4⟩:=stL_size (p:=p) l (i+1) (w.setCell (p.add i) v)
   exact ⟨by rw [stL,h1];simp [World.setCell],by rw [stL,h2];rfl,by rw [stL,h3];rfl,by rw [stL,h4];rfl⟩
theorem stL_far' {g o:Nat} (j:Nat) (hj:j≠g):∀ (l:List Value) (i:Nat) (w:World),(stL w ⟨g,o,none⟩ l i).heap[j]?=w.heap[j]?
 | [],_,_=>rfl
 | v :: l,i,w=>by
   rw [stL,stL_far' j hj l,addg]
   exact Below.heap_setCell w _ v j hj
theorem Sep.store (h:Sep w0 w L) {o:Nat} {l:List Value} (hu:Up (boxC g t cs) (boxC g t (setL cs o l)) L L'):Sep w0 (stL w ⟨g,o,none⟩ l 0) L':=by
 obtain ⟨s1,s2,s3,s4⟩:=stL_size (p:=⟨g,o,none⟩) l 0 w
 refine h.change hu zo s2 s3 s4 ?_
 rintro F ⟨f1,f2⟩ hF
 refine ⟨F,⟨f1,stL_Blk l 0 w cs f2⟩,fun b hb=>⟨by have:=hF b hb;omega,.inl hb⟩,fun b _ hb=>stL_far' b (fun e=>hb (by rw [e];exact f1)) l 0 w⟩
end
def StK (P:Program) (n:Nat) (p v:Value) (w:World) (d:Option Nat) (ρ:Fr) (next:Fr→World→Prop):Prop:=okSt w n p v∧next (updO ρ d undef) (stW w p v)
def AlcK (P:Program) (t:TypeId) (cs:List Value) (w:World) (d:Option Nat) (ρ:Fr) (next:Fr→World→Prop):Prop:=next (updO ρ d (.pointer (some ⟨w.heap.size,0,none⟩))) (w.alloc (.cells cs.toArray t))
def BslK (P:Program) (t:TypeId) (cs:List Value) (n:Nat) (w:World) (d:Option Nat) (ρ:Fr) (next:Fr→World→Prop):Prop:=next (updO ρ d (.slice (some ⟨w.heap.size,0,none⟩) n n)) (w.alloc (.cells cs.toArray t))
section
variable {P:Program} {K:Fr→World→Prop} {rest:List ML} {ρ:Fr} {w w0:World} {d:Option Nat} {next:Fr→World→Prop} {L L':List Chk} {g:Nat} {t:TypeId} {cs:List Value}
theorem O_stK (n:Nat) (x y:Operand):O P K (⟨none,d,.st n x y⟩ :: rest) ρ w=StK P n (ev ρ x) (ev ρ y) w d ρ (O P K rest):=by rw [O_st];rfl
theorem O_alcK (t:TypeId) (cs:List Value):O P K (⟨none,d,.alc t cs⟩ :: rest) ρ w=AlcK P t cs w d ρ (O P K rest):=by rw [O_alc];rfl
theorem O_bslK (t:TypeId) (zs:List Value) (n:Nat) (ps:List (Nat×Nat×Operand)):O P K (⟨none,d,.bsl t zs n ps⟩ :: rest) ρ w=(okLay zs (evP ρ ps)∧BslK P t (layL zs (evP ρ ps)) n w d ρ (O P K rest)):=by rw [O_bsl];rfl
theorem alcK (hS:Sep w0 w L) (k:∀ g w',Sep w0 w' (boxC g t cs :: L)→next (updO ρ d (.pointer (some ⟨g,0,none⟩))) w'):AlcK P t cs w d ρ next:=k _ _ (hS.alloc t cs)
theorem bslK {n:Nat} (hS:Sep w0 w L) (k:∀ g w',Sep w0 w' (boxC g t cs :: L)→next (updO ρ d (.slice (some ⟨g,0,none⟩) n n)) w'):BslK P t cs n w d ρ next:=k _ _ (hS.alloc t cs)
theorem boxK {v:Value} {l:List Value} (hS:Sep w0 w L) (hl:v.cells=l.toArray) (k:∀ g w',Sep w0 w' (boxC g t l :: L)→next (updO ρ d (.pointer (some ⟨g,0,none⟩))) w'):SemK P (Instr.box t v) w d ρ next:=by
 refine ⟨.pointer (some ⟨w.heap.size,0,none⟩),w.alloc (.cells l.toArray t),?_,k _ _ (hS.alloc t l)⟩
 simp [Instr.box,newVar,newRow,hl]
theorem stK {n o:Nat} {v:Value} {l:List Value} (hS:Sep w0 w L) (hl:v.cells=l.toArray) (hu:Up (boxC g t cs) (boxC g t (setL cs o l)) L L') (hn:l.length=n) (ho:o+n≤cs.length) (h1:∀ u∈l,One u)
 (k:∀ w',Sep w0 w' L'→next (updO ρ d undef) w'):StK P n (.pointer (some ⟨g,o,none⟩)) v w d ρ next:=by
 obtain ⟨R,he,_⟩:=hu.split
 have hb:=hS.blk he
 refine ⟨⟨by rw [hl];simpa using hn,by rw [hl];simpa [One] using h1,fun j hj=>?_⟩,?_⟩
 ·rw [addg,hb.cell,hb.frozen]
  exact ⟨by simp;omega,rfl⟩
 ·simp only [stW,hl]
  exact k _ (hS.store hu)
theorem callK_pu {f:Nat} {args:List Value} {X:Value} (hS:Sep w0 w L) (h:Pu P f args.toArray w X) (k:∀ w',Sep w0 w' L→next (updO ρ d X) w'):CallK P f args w d ρ next :=
 CallK.pu h fun w' hx=>k w' (hS.ext hx)
theorem callK_of {f:Nat} {args:List Value} {V:Value→World→Prop} (h:Ret P f args.toArray w V) (k:∀ v w',V v w'→next (updO ρ d v) w'):CallK P f args w d ρ next:=CallK.of h k
theorem nil_own (w:World) (t:TypeId) {α:Type} (e:Enc α):(accC (.slice none 0 0) t e []).ok w (fun _=>False) :=
 ⟨World.ownsRow_nil w 0 t e.sz,fun g h=>by simp [Value.ownBlock] at h,fun u h=>by simp at h,by simp⟩
theorem Sep.nil {α:Type} (hS:Sep w0 w L) (t:TypeId) (e:Enc α):Sep w0 w (accC (.slice none 0 0) t e [] :: L):=hS.push (Ext.refl w) (nil_own w t e) (fun _ h=>h.elim)
end
structure SlT (P:Program) (t e:TypeId) (sz bt:Nat) (zs:List Value):Prop where
 u:P.underlying t=some (.slice e)
 i:∃ i z,P.info? e=some i∧i.zero=some z∧i.size=sz∧i.bytes=bt∧z.cells=zs.toArray∧zs.length=sz
def slInfo (P:Program) (t:TypeId):Option (TypeId×Nat×Nat×List Value) :=
 match P.underlying t with
 | some (.slice e)=>match P.info? e with
   | some i=>match i.zero with
     | some z=>if z.cells.size=i.size then some (e,i.size,i.bytes,z.cells.toList) else none
     | none=>none
   | none=>none
 | _=>none
theorem SlT.of {P:Program} {t e:TypeId} {sz bt:Nat} {zs:List Value} (h:slInfo P t=some (e,sz,bt,zs)):SlT P t e sz bt zs:=by
 unfold slInfo at h
 split at h<;>try (simp at h;done)
 rename_i e' hu
 split at h<;>try (simp at h;done)
 rename_i i hi
 split at h<;>try (simp at h;done)
 rename_i z hz
 split at h<;>simp at h
 rename_i hs
 obtain ⟨rfl,h2,h3,h4⟩:=h
 exact ⟨hu,i,z,hi,hz,h2,h3,by rw [←h4],by rw [←h4,←h2];simpa using hs⟩
section
variable {P:Program} {ρ:Fr} {w w0:World} {d:Option Nat} {next:Fr→World→Prop} {L L' R:List Chk} {g:Nat} {t e ty:TypeId} {v:Value} {sz bt:Nat}
theorem setCells_stL (g o:Nat):∀ (l:List Value) (i:Nat) (w:World),w.setCells g (o+i) l=stL w ⟨g,o,none⟩ l i
 | [],_,_=>rfl
 | v :: l,i,w=>by
   simp only [World.setCells,stL,addg]
   exact setCells_stL g o l (i+1) _
theorem setL_eq:∀ (l:List Value) (o:Nat) (cs:List Value),o+l.length≤cs.length→setL cs o l=cs.take o++l++cs.drop (o+l.length)
 | [],o,cs,h=>by simp [setL]
 | v :: l,o,cs,h=>by
   simp only [List.length_cons] at h
   rw [setL,setL_eq l (o+1) (cs.set o v) (by simp;omega)]
   rw [List.drop_set_of_lt zo,List.take_succ_eq_append_getElem (by simp;omega)]
   simp [List.take_set_of_le,Nat.add_assoc,Nat.add_comm 1]
theorem app_run {α:Type} {E:Enc α} {xs ys:List α} {x:Value} {tx:TypeId} {R:Value→List Chk} (hS:Sep w0 w L) {zs:List Value} (hT:SlT P t e E.sz bt zs) (hp:0 < E.sz) (hu:∀ v',Up (accC v e E xs) (accC v' e E (xs++ys)) L (R v'))
 (hs:Src P E.sz tx x ys.length (ys.flatMap E.f) w) (h63:((xs.length+ys.length)+(xs.length+ys.length) / 4+192) * bt≤281474976710656) (h64:xs.length+ys.length≤1000000000000000) :
 ∃ v' w',(Builtin.append_ #[t,tx] ty #[v,x]).run P w=.ok v' w'∧Sep w0 w' (R v'):=by
 obtain ⟨i,z,hi,hz,hsz,hby,hzs,hzl⟩:=hT.i
 have hzs:z.cells.size=E.sz:=by rw [hzs];simpa using hzl
 obtain ⟨R0,he,_⟩:=(hu v).split
 obtain ⟨F,⟨h1,h2,h3,h4⟩,hF⟩:=hS.get he
 have hone:∀ u∈(xs++ys).flatMap E.f,One u:=by
  intro u hm
  rw [List.flatMap_append,List.mem_append] at hm
  rcases hm with hm|hm
  ·exact h3 u hm
  ·exact hs.one u hm
 have hml:xs.length+ys.length≤maxLen:=by unfold maxLen;omega
 have hlen:((xs++ys).flatMap E.f).length=(xs++ys).length * E.sz:=flat_len E _
 have hfm:(xs++ys).flatMap E.f=xs.flatMap E.f++ys.flatMap E.f:=List.flatMap_append
 have hla:(xs++ys).length=xs.length+ys.length:=List.length_append
 have hly:=flat_len E ys
 have hlx:=flat_len E xs
 have hs':Src P i.size tx x ys.length (ys.flatMap E.f) w:=by rw [hsz];exact hs
 have hfit:∀ old,old < xs.length+ys.length→Builtin.nextslicecap (xs.length+ys.length) old * i.bytes≤281474976710656:=fun old ho =>
  Nat.le_trans (Nat.mul_le_mul_right _ (nextslicecap_le_wide ho)) (by rw [hby];exact h63)
 have grown:∀ (v:Value) (old:Nat),old < xs.length+ys.length→Up (accC v e E xs) (accC (.slice (some ⟨w.heap.size,0,none⟩) (xs.length+ys.length) (grownCap w (xs.length+ys.length) old e)) e E (xs++ys)) L (R (.slice (some ⟨w.heap.size,0,none⟩) (xs.length+ys.length) (grownCap w (xs.length+ys.length) old e))) →
  Sep w0 (w.drew.alloc (.cells ((xs.flatMap E.f++ys.flatMap E.f).toArray++Builtin.zeroCells z.cells (grownCap w (xs.length+ys.length) old e - (xs.length+ys.length))) e)) (R (.slice (some ⟨w.heap.size,0,none⟩) (xs.length+ys.length) (grownCap w (xs.length+ys.length) old e))):=by
  intro v old ho hu
  have hge:=grownCap_ge w (xs.length+ys.length) old e
  have hcm:grownCap w (xs.length+ys.length) old e≤maxLen:=grownCap_le_maxLen w (xs.length+ys.length) old e hml
  refine hS.change hu ze rfl rfl rfl ?_
  rintro F' - hF'
  refine ⟨fun b=>b=w.heap.size,⟨⟨hlen,.inr ⟨w.heap.size,_,_,by rw [hla],Nat.zero_le _,heap_alloc_new w.drew _,by rw [hla];exact hge,hcm,?_,?_⟩⟩,fun g hg=>by simpa [Value.ownBlock] using hg.symm,hone,by omega⟩,fun b hb=>⟨by rw [hb];simp,.inr zo⟩,fun b hb _=>Below.heap_alloc w.drew _ b hb⟩
  ·simp only [Array.size_append,List.size_toArray,size_zeroCells,hzs,List.length_append,hlx,hly,←Nat.add_mul]
   congr 1
   omega
  ·simp only [Array.toList_append,hfm]
   rw [←hlen,hfm]
   exact List.take_left
 rcases h1.2 with ⟨rfl,hn⟩|⟨g,cap,cur,rfl,hbg,hg,hnc,hcm,hcs,htake⟩
 ·have hx:xs=[]:=List.eq_nil_of_length_eq_zero hn
  subst hx
  by_cases hm:ys.length=0
  ·have hy:ys=[]:=List.eq_nil_of_length_eq_zero hm
   subst hy
   refine ⟨.slice none 0 0,w,?_,?_⟩
   ·rcases hs.kind with ⟨e',hk⟩|hk
    all_goals
     have hl0:=hs.len w
     have hc0:=hs.cells
     simp only [List.length_nil,List.flatMap_nil] at hl0 hc0
     have hc1:(Builtin.firstCells i.size 0 x).run P w=.ok #[] w:=by rw [hsz];exact hc0
     simp [Builtin.append_,run_underlying hT.u,run_underlying hk,sizeOf,typeInfo,hi,hl0,hc1]
   ·refine hS.change (hu _) (Nat.le_refl _) rfl rfl rfl ?_
    rintro F' ⟨a1,a2,a3,a4⟩ hF'
    exact ⟨F',⟨a1,a2,a3,a4⟩,fun b hb=>⟨hF' b hb,.inl hb⟩,fun _ _ _=>rfl⟩
  ·have hr:=run_append_grow_src (P:=P) w t tx ty e i z hT.u hi hz none 0 0 [] (by simp [Builtin.firstCells]) x ys.length (ys.flatMap E.f) hs' zo zo (by have:=hfit 0 (by simp;omega);simpa using this)
   have:=grown (.slice none 0 0) 0 (by simp;omega) (hu _)
   simp only [List.length_nil,Nat.zero_add,List.flatMap_nil,List.nil_append] at this hr
   exact ⟨_,_,hr,this⟩
 ·by_cases hroom:xs.length+ys.length≤cap
  ·have hfit2:xs.length * E.sz+(ys.flatMap E.f).length≤cur.size:=by rw [hly,hcs,←Nat.add_mul];exact Nat.mul_le_mul_right _ hroom
   have hcell:∀ j,j < (ys.flatMap E.f).length→(w.cell? ⟨g,0+xs.length * i.size+j,none⟩).isSome=true:=fun j hj=>by
    rw [cell_of_row w g _ cur e (0,0) hg,hsz]
    have h5:0+xs.length * E.sz+j < cur.size:=by omega
    rw [Array.getElem?_eq_getElem h5];rfl
   have hfz:∀ j,j < (ys.flatMap E.f).length→w.frozen? ⟨g,0+xs.length * i.size+j,none⟩=false:=fun j hj=>Blk.frozen (show Blk w g e cur from hg) _
   have hr:=run_append_room_src (P:=P) w t tx ty e i hT.u hi g 0 xs.length cap x ys.length (ys.flatMap E.f) hs' hroom hcell hfz
   refine ⟨_,_,hr,?_⟩
   have e0:w.setCells g (0+xs.length * i.size) (ys.flatMap E.f)=stL w ⟨g,xs.length * E.sz,none⟩ (ys.flatMap E.f) 0:=by
    rw [Nat.zero_add,hsz];exact setCells_stL g (xs.length * E.sz) _ 0 w
   rw [e0]
   obtain ⟨s1,s2,s3,s4⟩:=stL_size (p:=⟨g,xs.length * E.sz,none⟩) (ys.flatMap E.f) 0 w
   refine hS.change (hu _) zo s2 s3 s4 ?_
   rintro F' ⟨a1,a2,a3,a4⟩ hF'
   have hFg:=a2 g rfl
   have hblk:=stL_Blk (g:=g) (o:=xs.length * E.sz) (t:=e) (ys.flatMap E.f) 0 w cur.toList hg
   rw [Nat.add_zero,setL_eq _ _ _ (by simpa using hfit2)] at hblk
   refine ⟨F',⟨⟨hlen,.inr ⟨g,cap,_,by rw [hla],Nat.zero_le _,hblk,by rw [hla];exact hroom,hcm,?_,?_⟩⟩,fun k hk=>a2 k hk,hone,by omega⟩,fun b hb=>⟨by have:=hF' b hb;omega,.inl hb⟩,fun b _ hb=>stL_far' b (fun e=>hb (by rw [e];exact hFg)) _ _ _⟩
   ·simp only [List.size_toArray,List.length_append,List.length_take,List.length_drop,Array.length_toList]
    omega
   ·rw [htake,hfm,←hlen,hfm]
    exact List.take_left
  ·have holds:∀ j u,(xs.flatMap E.f)[j]?=some u→w.drew.cell? ((⟨g,0,none⟩:Addr).add j)=some u:=h1.cells (g:=g) rfl
   have hr:=run_append_grow_src (P:=P) w t tx ty e i z hT.u hi hz (some ⟨g,0,none⟩) xs.length cap (xs.flatMap E.f) (run_firstCells_some w.drew i.size xs.length _ xs.length cap _ (by rw [hsz];exact hlx) holds) x ys.length (ys.flatMap E.f) hs' zo zo (hfit cap zo)
   exact ⟨_,_,hr,grown _ cap zo (hu _)⟩
end
section
variable {P:Program} {ρ:Fr} {w w0:World} {d:Option Nat} {next:Fr→World→Prop} {L M:List Chk} {g:Nat} {t e ty:TypeId} {v:Value} {bt:Nat}
theorem src_rd {α:Type} {E:Enc α} {xs:List α} {x:Value} {tx e':TypeId} (h:Rd w E x xs) (hk:P.underlying tx=some (.slice e')):Src P E.sz tx x xs.length (xs.flatMap E.f) w:=by
 obtain ⟨p,cap,rfl,h2,h3,h4,h5⟩:=h
 cases p with
 | none =>
   have:xs=[]:=by
    rcases Nat.eq_zero_or_pos xs.length with hz|hz
    ·exact List.eq_nil_of_length_eq_zero hz
    ·obtain ⟨a,ha,_⟩:=h5 hz;cases ha
   subst this
   exact Src.ofNil w hk cap
 | some a =>
   refine Src.ofSlice w hk a _ cap _ (flat_len E xs) ?_ h4
   intro j u hj
   rcases Nat.eq_zero_or_pos xs.length with hz|hz
   ·have:xs=[]:=List.eq_nil_of_length_eq_zero hz
    subst this;simp at hj
   ·obtain ⟨a',ha,hc⟩:=h5 hz
    cases ha;exact hc j u hj
theorem blk_rd {α:Type} {E:Enc α} {ys:List α} {n c:Nat} (h:Blk w g t (ys.flatMap E.f).toArray) (hn:n=ys.length) (hc:n≤c) (hm:ys.length≤9223372036854775807) (h1:∀ u∈ys.flatMap E.f,One u):Rd w E (.slice (some ⟨g,0,none⟩) n c) ys:=by
 subst hn
 refine ⟨_,c,rfl,hc,hm,h1,fun _=>⟨_,rfl,fun j u hj=>?_⟩⟩
 rw [add_blk,h.cell]
 simpa using hj
theorem Sep.toAcc {α:Type} {E:Enc α} {cells:List Value} {L':List Chk} {n:Nat} (xs:List α) (hS:Sep w0 w L) (hu:Up (boxC g e cells) (accC (.slice (some ⟨g,0,none⟩) n n) e E xs) L L') (hc:cells=xs.flatMap E.f) (hn:n=xs.length) (h1:∀ u∈cells,One u) (hm:n≤1000000000000000):Sep w0 w L':=by
 subst hc;subst hn
 refine hS.change hu (Nat.le_refl _) rfl rfl rfl ?_
 rintro F ⟨f1,f2⟩ hF
 have hl:=flat_len E xs
 refine ⟨F,⟨⟨hl,.inr ⟨g,xs.length,_,rfl,Nat.zero_le _,f2,Nat.le_refl _,by unfold maxLen;omega,by simpa using hl,by rw [←hl];exact List.take_of_length_le (Nat.le_refl _)⟩⟩,fun k hk=>by simp only [Value.ownBlock,Option.some.injEq] at hk;rw [←hk];exact f1,h1,by omega⟩,fun b hb=>⟨hF b hb,.inl hb⟩,fun _ _ _=>rfl⟩
theorem app1 {α:Type} {E:Enc α} {xs:List α} {cells:List Value} {R:Value→List Chk} (y:α) (hS:Sep w0 w L) (hb:Ex (boxC g e cells) L M) (hu:∀ v',Up (accC v e E xs) (accC v' e E (xs++[y])) M (R v')) (hy:cells=E.f y) {zs:List Value} (hT:SlT P t e E.sz bt zs) (hp:0 < E.sz)
 (h63:((xs.length+1)+(xs.length+1) / 4+192) * bt≤281474976710656) (h64:xs.length+1≤1000000000000000) (h1:∀ u∈cells,One u)
 (k:∀ v' w',Sep w0 w' (R v')→next (updO ρ d v') w'):SemK P (Builtin.append_ #[t,t] ty #[v,.slice (some ⟨g,0,none⟩) 1 1]) w d ρ next:=by
 subst hy
 have hB:=hS.blk hb
 have hr:Rd w E (.slice (some ⟨g,0,none⟩) 1 1) [y]:=blk_rd (t:=e) (by simpa using hB) rfl ze ze (by simpa using h1)
 obtain ⟨v',w',h2,h3⟩:=app_run (P:=P) (ty:=ty) (hS.drop hb) hT hp hu (src_rd hr hT.u) h63 h64
 exact ⟨v',w',h2,k v' w' h3⟩
theorem appN {α:Type} {E:Enc α} {xs ys:List α} {x:Value} {R:Value→List Chk} (hS:Sep w0 w L) (hr:Rd w E x ys) (hu:∀ v',Up (accC v e E xs) (accC v' e E (xs++ys)) L (R v')) {zs:List Value} (hT:SlT P t e E.sz bt zs) (hp:0 < E.sz)
 (h63:((xs.length+ys.length)+(xs.length+ys.length) / 4+192) * bt≤281474976710656) (h64:xs.length+ys.length≤1000000000000000)
 (k:∀ v' w',Sep w0 w' (R v')→next (updO ρ d v') w'):SemK P (Builtin.append_ #[t,t] ty #[v,x]) w d ρ next:=by
 obtain ⟨v',w',h2,h3⟩:=app_run (P:=P) (ty:=ty) hS hT hp hu (src_rd hr hT.u) h63 h64
 exact ⟨v',w',h2,k v' w' h3⟩
theorem byte_flat (s:Str):s.map (fun b=>Value.int .u8 b.toNat)=s.flatMap eU.f:=by
 induction s with
 | nil=>rfl
 | cons c s ih=>rw [List.map_cons,ih,List.flatMap_cons];rfl
theorem take_setL (m:Nat):∀ (l:List Value) (o:Nat) (cs:List Value),(setL cs o l).take m=setL (cs.take m) o l
 | [],_,_=>rfl
 | x :: l,o,cs=>by rw [setL,take_setL m l,List.take_set];rfl
theorem appS {xs:List UInt8} {s:Str} {tx:TypeId} {R:Value→List Chk} (hS:Sep w0 w L) (hu:∀ v',Up (accC v e eU xs) (accC v' e eU (xs++s)) L (R v')) {zs:List Value} (hT:SlT P t e 1 bt zs) (hx:P.underlying tx=some .string)
 (h63:((xs.length+s.length)+(xs.length+s.length) / 4+192) * bt≤281474976710656) (h64:xs.length+s.length≤1000000000000000)
 (k:∀ v' w',Sep w0 w' (R v')→next (updO ρ d v') w'):SemK P (Builtin.append_ #[t,tx] ty #[v,S s]) w d ρ next:=by
 have hs:Src P eU.sz tx (S s) s.length (s.flatMap eU.f) w:=by
  have:=Src.ofString (P:=P) w hx ⟨s.toArray⟩
  have e1:(ByteArray.mk s.toArray).size=s.length:=sizeS s
  have e2:byteCells ⟨s.toArray⟩=s.flatMap eU.f:=byte_flat s
  rw [e1,e2] at this
  exact this
 obtain ⟨v',w',h2,h3⟩:=app_run (P:=P) (ty:=ty) hS (E:=eU) hT zd hu hs h63 h64
 exact ⟨v',w',h2,k v' w' h3⟩
theorem zeros_eq {α:Type} (E:Enc α) (z0:α) (hp:0 < E.sz) (c:Nat):((List.range (c * E.sz)).map fun i=>((E.f z0).toArray[i % (E.f z0).toArray.size]!:Value))=(List.replicate c z0).flatMap E.f:=by
 apply List.ext_getElem?
 intro j
 by_cases hj:j < c * E.sz
 ·have hd:j / E.sz < c:=Nat.div_lt_of_lt_mul (by rw [Nat.mul_comm];exact hj)
  have hm:j % E.sz < E.sz:=Nat.mod_lt _ hp
  have he:j=(j / E.sz) * E.sz+j % E.sz:=by rw [Nat.mul_comm];exact (Nat.div_add_mod j E.sz).symm
  have h2:=flat_at E (List.replicate c z0) (j / E.sz) (j % E.sz) (by simpa using hd) hm
  rw [←he] at h2
  rw [h2]
  simp only [List.getElem_replicate,List.getElem?_map,List.getElem?_range hj,Option.map_some,List.size_toArray,E.len]
  rw [List.getElem?_eq_getElem (by rw [E.len];exact hm)]
  congr 1
  rw [getElem!_pos _ _ (by rw [List.size_toArray,E.len];exact hm)]
  simp
 ·rw [List.getElem?_eq_none (by simp;omega),List.getElem?_eq_none (by rw [flat_len];simp;omega)]
theorem mkS {α:Type} {E:Enc α} {z0:α} {n c:Int} (hS:Sep w0 w L) {zs:List Value} (hT:SlT P t e E.sz bt zs) (hzs:zs=E.f z0) (hp:0 < E.sz) (hn:0≤n∧n≤c∧c≤1000000000000000) (hb:(bt:Int) * c≤281474976710656) (h1:∀ u∈E.f z0,One u)
 (k:∀ v w',Sep w0 w' (accC v e E (List.replicate n.toNat z0) :: L)→next (updO ρ d v) w'):SemK P (Instr.makeSlice t (.int .i64 n) (.int .i64 c)) w d ρ next:=by
 obtain ⟨i,z,hi,hz,hsz,hby,hzc,hzl⟩:=hT.i
 have hzs:z.cells=(E.f z0).toArray:=by rw [hzc,hzs]
 have hwn:IntKind.i64.wrap n=n:=IntWalk.i64_in n zo
 have hwc:IntKind.i64.wrap c=c:=IntWalk.i64_in c zo
 have hbn:(bt:Int) * n≤281474976710656:=Int.le_trans (Int.mul_le_mul_of_nonneg_left hn.2.1 zo) hb
 let cur:Array Value:=((List.replicate c.toNat z0).flatMap E.f).toArray
 have hrun:(Instr.makeSlice t (.int .i64 n) (.int .i64 c)).run P w=.ok (.slice (some ⟨w.heap.size,0,none⟩) n.toNat c.toNat) (w.alloc (.cells cur e)):=by
  have hr:=run_make (P:=P) w t e i z hT.u hi hz .i64 .i64 n c hn.1 hn.2.1 (by rw [hby];exact hb) zo
  have e1:madeCells z.cells (c.toNat * i.size)=cur:=by
   apply Array.ext'
   simp only [madeCells,Array.toList_map,Array.toList_range,cur]
   rw [hzs,hsz]
   exact zeros_eq E z0 hp c.toNat
  rw [hr,e1]
 refine ⟨_,_,hrun,k _ _ ?_⟩
 refine hS.push ((Ext.refl w).alloc _) (F:=fun b=>b=w.heap.size) ?_ (by intro b hb;subst hb;exact ⟨Nat.le_refl _,by simp⟩)
 have hone:∀ (m:Nat) (u:Value),u∈(List.replicate m z0).flatMap E.f→One u:=by
  intro m u hu
  obtain ⟨x,hx,hu⟩:=List.mem_flatMap.1 hu
  rw [(List.mem_replicate.1 hx).2] at hu
  exact h1 u hu
 have hnc:n.toNat≤c.toNat:=by omega
 refine ⟨⟨flat_len E _,.inr ⟨w.heap.size,c.toNat,cur,by simp,Nat.zero_le _,heap_alloc_new w _,by simpa using hnc,by unfold maxLen;omega,?_,?_⟩⟩,fun b hb=>by simpa [Value.ownBlock] using hb.symm,hone _,by simp;omega⟩
 ·show cur.size=_
  simp only [cur,List.size_toArray]
  rw [flat_len];simp
 ·show List.take _ cur.toList=_
  simp only [cur,List.length_replicate]
  have e2:List.replicate c.toNat z0=List.replicate n.toNat z0++List.replicate (c.toNat - n.toNat) z0:=by rw [List.replicate_append_replicate];congr 1;omega
  rw [e2,List.flatMap_append]
  have e3:n.toNat * E.sz=((List.replicate n.toNat z0).flatMap E.f).length:=by rw [flat_len];simp
  rw [e3]
  exact List.take_left
theorem flat_set {α:Type} (E:Enc α):∀ (xs:List α) (i:Nat) (y:α),i < xs.length→(xs.set i y).flatMap E.f=setL (xs.flatMap E.f) (i * E.sz) (E.f y):=by
 intro xs i y hi
 rw [setL_eq _ _ _ (by rw [flat_len,E.len];have:(i+1) * E.sz≤xs.length * E.sz:=Nat.mul_le_mul_right _ hi;rw [Nat.add_mul] at this;omega)]
 have e1:xs.set i y=xs.take i++y :: xs.drop (i+1):=by rw [List.set_eq_take_append_cons_drop,if_pos hi]
 have e2:xs=xs.take i++(xs[i] :: xs.drop (i+1)):=by rw [List.getElem_cons_drop];exact (List.take_append_drop i xs).symm
 have l1:((xs.take i).flatMap E.f).length=i * E.sz:=by rw [flat_len,List.length_take,Nat.min_eq_left zo]
 rw [e1]
 conv=>rhs;rw [e2]
 simp only [List.flatMap_append,List.flatMap_cons,E.len]
 have h5:∀ (A B C:List Value),(A++(B++C)).drop (A.length+B.length)=C:=fun A B C=>by rw [←List.append_assoc];exact List.drop_left' List.length_append
 have h6:=h5 ((xs.take i).flatMap E.f) (E.f xs[i]) ((xs.drop (i+1)).flatMap E.f)
 rw [E.len] at h6
 rw [←l1,List.take_left,h6,List.append_assoc]
theorem stE {α:Type} {E:Enc α} {xs:List α} {n:Nat} {i:Int} {k':IntKind} {L':List Chk} {x:Value} (y:α) (hS:Sep w0 w L) (hu:Up (accC v e E xs) (accC v e E (xs.set i.toNat y)) L L') (hi:0≤i∧i < (xs.length:Int)) (hn:E.sz=n) (hx:x.cells=(E.f y).toArray) (h1:∀ u∈E.f y,One u)
 (k:∀ w',Sep w0 w' L'→next (updO ρ d undef) w'):StK P n (adrV n v (.int k' i)) x w d ρ next:=by
 subst hn
 obtain ⟨R,he,_⟩:=hu.split
 obtain ⟨F,⟨a1,a2,a3,a4⟩,hF⟩:=hS.get he
 rcases a1.2 with ⟨rfl,h0⟩|⟨g,cap,cur,rfl,hbg,hg,hnc,hcm,hcs,htake⟩
 ·omega
 have hi2:i.toNat < xs.length:=by omega
 have hp:adrV E.sz (.slice (some ⟨g,0,none⟩) xs.length cap) (.int k' i)=.pointer (some ⟨g,i.toNat * E.sz,none⟩):=by simp [adrV,addg]
 rw [hp]
 have hle:(i.toNat+1) * E.sz≤cap * E.sz:=Nat.mul_le_mul_right _ zo
 have hle2:(i.toNat+1) * E.sz≤xs.length * E.sz:=Nat.mul_le_mul_right _ zo
 rw [Nat.add_mul] at hle hle2
 have hB:Blk w g e cur.toList.toArray:=hg
 refine ⟨⟨by rw [hx];simp [E.len],by rw [hx];simpa [One] using h1,fun j hj=>?_⟩,?_⟩
 ·rw [addg,hB.cell,hB.frozen]
  have:i.toNat * E.sz+j < cur.size:=by omega
  exact ⟨by simp [this],rfl⟩
 ·simp only [stW,hx]
  refine k _ ?_
  obtain ⟨s1,s2,s3,s4⟩:=stL_size (p:=⟨g,i.toNat * E.sz,none⟩) (E.f y) 0 w
  refine hS.change hu zo s2 s3 s4 ?_
  rintro F' ⟨b1,b2,b3,b4⟩ hF'
  have hFg:=b2 g rfl
  have hlen:(E.f y).length=E.sz:=E.len y
  have hblk:=stL_Blk (g:=g) (o:=i.toNat * E.sz) (t:=e) (E.f y) 0 w cur.toList hB
  rw [Nat.add_zero] at hblk
  have hsl:(xs.set i.toNat y).length=xs.length:=by simp
  refine ⟨F',⟨⟨flat_len E _,.inr ⟨g,cap,_,by rw [hsl],Nat.zero_le _,hblk,by rw [hsl];exact hnc,hcm,?_,?_⟩⟩,fun k hk=>b2 k hk,?_,by omega⟩,fun b hb=>⟨by have:=hF' b hb;omega,.inl hb⟩,fun b _ hb=>stL_far' b (fun e=>hb (by rw [e];exact hFg)) _ _ _⟩
  ·rw [setL_eq _ _ _ (by simp;omega)]
   simp only [List.size_toArray,List.length_append,List.length_take,List.length_drop,Array.length_toList,hlen]
   omega
  ·rw [flat_set E xs _ y hi2,←htake,hsl]
   exact take_setL _ _ _ _
  ·intro u hm
   obtain ⟨x',hx',hu'⟩:=List.mem_flatMap.1 hm
   rcases List.mem_or_eq_of_mem_set hx' with h|h
   ·exact b3 u (List.mem_flatMap.2 ⟨x',h,hu'⟩)
   ·rw [h] at hu';exact h1 u hu'
end
open Go.RowKit Go.MapKept
theorem S_inj {a b:Str} (h:S a=S b):a=b:=by
 simp only [S,Value.string.injEq,ByteArray.mk.injEq] at h
 simpa using h
def MapRd {β:Type} (w:World) (r:Nat) (enc:β→Value) (m:Str→Option β):Prop :=
 ∃ es clock,w.heap[r]?=some (.map es clock)∧Stamped es clock∧(∀ x∈es.toList,∃ k b,x.key=S k∧m k=some b∧x.val=enc b)∧∀ k b,m k=some b→∃ x∈es.toList,x.key=S k
def mapC {β:Type} (r:Nat) (enc:β→Value) (m:Str→Option β):Chk where
 ok w F:=F r∧MapRd w r enc m
 loc:=fun hb ⟨h1,es,clock,h2,h3⟩=>⟨h1,es,clock,(hb r h1).2.trans h2,h3⟩
structure PtT (P:Program) (t e:TypeId):Prop where
 u:P.underlying t=some (.pointer e)
structure MapT (P:Program) (t kt et:TypeId) (z:Value):Prop where
 u:P.underlying t=some (.map kt et)
 k:P.underlying kt=some .string
 z:∃ i,P.info? et=some i∧i.zero=some z
def mapInfo (P:Program) (t:TypeId):Option (TypeId×TypeId×Value) :=
 match P.underlying t with
 | some (.map kt et)=>match P.underlying kt,P.info? et with
   | some .string,some i=>match i.zero with
     | some z=>some (kt,et,z)
     | none=>none
   | _,_=>none
 | _=>none
theorem MapT.of {P:Program} {t kt et:TypeId} {z:Value} (h:mapInfo P t=some (kt,et,z)):MapT P t kt et z:=by
 unfold mapInfo at h
 split at h<;>try (simp at h;done)
 rename_i hu
 split at h<;>try (simp at h;done)
 rename_i hk hi
 split at h<;>simp at h
 rename_i hz
 obtain ⟨rfl,rfl,rfl⟩:=h
 exact ⟨hu,hk,_,hi,hz⟩
def mput {β:Type} (m:Str→Option β) (k:Str) (b:β):Str→Option β:=fun k'=>if k'=k then some b else m k'
def mget {β:Type} (enc:β→Value) (z:Value):Option β→Value|some b=>enc b|none=>z
section
variable {P:Program} {ρ:Fr} {w w0:World} {d:Option Nat} {next:Fr→World→Prop} {L L' R:List Chk} {t kt et ty:TypeId} {z:Value} {β:Type} {enc:β→Value} {m:Str→Option β} {r:Nat} {s:Str}
theorem isKey_S:IsKey .string (S s):=by simp [IsKey,S]
theorem find_m {es:Array MapEntry} (h1:∀ x∈es.toList,∃ k b,x.key=S k∧m k=some b∧x.val=enc b) (h2:∀ k b,m k=some b→∃ x∈es.toList,x.key=S k) (s:Str) :
 (m s=none∧Instr.findNow .string (S s) es.toList 0=some none∧∀ x∈es.toList,x.key≠S s)∨∃ b j e,m s=some b∧Instr.findNow .string (S s) es.toList 0=some (some (j,enc b))∧es[j]?=some e∧e.key=S s∧e.val=enc b:=by
 rcases findNow_spec (d:=.string) (k:=S s) isKey_S es.toList 0 (fun x hx=>by obtain ⟨k,b,e,_⟩:=h1 x hx;rw [e];exact isKey_S) with ⟨h3,h4⟩|⟨j,e,h3,h4,h5⟩
 ·left
  refine ⟨?_,h3,h4⟩
  cases hm:m s with
  | none=>rfl
  | some b=>obtain ⟨x,hx,hk⟩:=h2 s b hm;exact absurd hk (h4 x hx)
 ·right
  have hj:es[j]?=some e:=by simpa using h4
  have he:e∈es.toList:=Array.mem_toList_iff.2 (Array.mem_of_getElem? hj)
  obtain ⟨k,b,e1,e2,e3⟩:=h1 e he
  have:k=s:=S_inj (e1.symm.trans h5)
  subst this
  exact ⟨b,j,e,e2,by rw [h3,Nat.zero_add,e3],hj,h5,e3⟩
theorem mkmK {x:Option Value} (enc:β→Value) (hS:Sep w0 w L) (hT:MapT P t kt et z) (hx:x=none∨∃ n:Int,x=some (I n))
 (k:∀ r w',Sep w0 w' (mapC r enc (fun _=>none) :: L)→next (updO ρ d (.map (some r))) w'):SemK P (Instr.makeMap t x) w d ρ next:=by
 have hrun:(Instr.makeMap t x).run P w=.ok (.map (some w.heap.size)) (w.alloc (.map #[] 0)):=by
  rcases hx with rfl|⟨n,rfl⟩
  ·simp [Instr.makeMap]
  ·simp [Instr.makeMap,run_underlying hT.u,asInt,asIntOf]
 refine ⟨_,_,hrun,k _ _ ?_⟩
 exact hS.push ((Ext.refl w).alloc _) (F:=fun b=>b=w.heap.size) ⟨rfl,#[],0,heap_alloc_new w _,stamped_empty 0,by simp,by simp⟩ (by intro b hb;subst hb;exact ⟨Nat.le_refl _,by simp⟩)
theorem MapRd.ext {w':World} (h:MapRd w r enc m) (hx:Ext w w'):MapRd w' r enc m:=by
 obtain ⟨es,clock,h1,h2⟩:=h
 have hlt:r < w.heap.size:=by
  rcases Nat.lt_or_ge r w.heap.size with q|q
  ·exact q
  ·rw [Array.getElem?_eq_none q] at h1;cases h1
 exact ⟨es,clock,(hx.block r hlt).trans h1,h2⟩
theorem MapRd.old (h:MapRd w0 r enc m) (hS:Sep w0 w L):MapRd w r enc m:=h.ext hS.1
theorem Sep.mrd (h:Sep w0 w L) (he:Ex (mapC r enc m) L R):MapRd w r enc m:=by
 obtain ⟨F,⟨_,h1⟩,_⟩:=h.get he
 exact h1
theorem lkpK {c:Bool} (hM:MapRd w r enc m) (hT:MapT P t kt et z)
 (k:next (updO ρ d (if c then .tuple #[mget enc z (m s),.bool (m s).isSome] else mget enc z (m s))) w):SemK P (Instr.lookup t (.map (some r)) (S s) c) w d ρ next:=by
 obtain ⟨es,clock,h1,h2,h3,h4⟩:=hM
 obtain ⟨i,hi,hz⟩:=hT.z
 have hc:∀ b,(Instr.checkKey b 10000 kt (S s)).run P w=.ok () w:=fun b=>MapKept.run_checkKey hT.k isKey_S b 9999
 refine ⟨_,w,?_,k⟩
 rcases find_m h3 h4 s with ⟨a1,a2,a3⟩|⟨b,j,e,a1,a2,a3,a4,a5⟩
 ·rw [a1]
  cases c<;>simp [Instr.lookup,run_underlying hT.u,MapKept.run_getObj_map h1,hc,MapKept.run_findKey hT.k a2,zeroValue,typeInfo,hi,hz,mget]
 ·rw [a1]
  cases c<;>simp [Instr.lookup,run_underlying hT.u,MapKept.run_getObj_map h1,hc,MapKept.run_findKey hT.k a2,mget]
theorem setObj_other {o:Obj} (b:Nat) (hb:b≠r):({ w with heap:=w.heap.setIfInBounds r o }:World).heap[b]?=w.heap[b]?:=by
 simp [Array.getElem?_setIfInBounds,Ne.symm hb]
theorem mupK {b:β} {v:Value} (hS:Sep w0 w L) (hu:Up (mapC r enc m) (mapC r enc (mput m s b)) L L') (hv:v=enc b) (hT:MapT P t kt et z)
 (k:∀ w',Sep w0 w' L'→next (updO ρ d undef) w'):UnitK P (Instr.mapUpdate t (.map (some r)) (S s) v) w d ρ next:=by
 subst hv
 obtain ⟨R,he,_⟩:=hu.split
 obtain ⟨F,⟨hF,es,clock,h1,h2,h3,h4⟩,hFb⟩:=hS.get he
 have hc:(Instr.checkKey false 10000 kt (S s)).run P w=.ok () w:=MapKept.run_checkKey hT.k isKey_S false 9999
 have hlt:=hFb r hF
 rcases find_m h3 h4 s with ⟨a1,a2,a3⟩|⟨b',j,e,a1,a2,a3,a4,a5⟩
 ·refine ⟨{ w with heap:=w.heap.setIfInBounds r (.map (es.push { key:=S s,val:=enc b,born:=clock }) (clock+1)) },?_,k _ ?_⟩
  ·simp [Instr.mapUpdate,run_underlying hT.u,MapKept.run_getObj_map h1,hc,MapKept.run_findKey hT.k a2,MapKept.run_setObj_map _ h1]
  ·refine hS.change hu ze rfl rfl rfl ?_
   rintro F' ⟨f1,_⟩ hF'
   refine ⟨F',⟨f1,_,_,(MapKept.heap_set h1).1,stamped_push h2 a3,?_,?_⟩,fun b hb=>⟨by have:=hF' b hb;simpa using this,.inl hb⟩,fun b' _ hb=>setObj_other b' fun e=>hb (by rw [e];exact f1)⟩
   ·intro x hx
    simp only [Array.toList_push,List.mem_append,List.mem_singleton] at hx
    rcases hx with hx|rfl
    ·obtain ⟨k',c,e1,e2,e3⟩:=h3 x hx
     have:k'≠s:=fun q=>a3 x hx (by rw [e1,q])
     exact ⟨k',c,e1,by simp [mput,this,e2],e3⟩
    ·exact ⟨s,b,rfl,by simp [mput],rfl⟩
   ·intro k' c hk
    simp only [mput] at hk
    split at hk
    ·rename_i q;subst q;exact ⟨{ key:=S k',val:=enc b,born:=clock },by simp,rfl⟩
    ·obtain ⟨x,hx,e1⟩:=h4 k' c hk
     exact ⟨x,by simp only [Array.toList_push,List.mem_append];exact .inl hx,e1⟩
 ·have hkey : ∀ e',es[j]?=some e'→({ e' with key:=S s,val:=enc b }:MapEntry).key=e'.key:=fun e' he'=>by rw [a3] at he';cases he';exact a4.symm
  refine ⟨{ w with heap:=w.heap.setIfInBounds r (.map (es.modify j fun e=>{ e with key:=S s,val:=enc b }) clock) },?_,k _ ?_⟩
  ·simp [Instr.mapUpdate,run_underlying hT.u,MapKept.run_getObj_map h1,hc,MapKept.run_findKey hT.k a2,a3,a4,MapKept.run_keyThatStays (isKey_S (s:=s)),MapKept.run_setObj_map _ h1]
  ·refine hS.change hu ze rfl rfl rfl ?_
   rintro F' ⟨f1,_⟩ hF'
   have hmk:=modify_keys j (fun e=>{ e with key:=S s,val:=enc b }) hkey
   refine ⟨F',⟨f1,_,_,(MapKept.heap_set h1).1,stamped_modify h2 _ _ (fun _ _=>rfl) (fun e' _ he'=>hkey e' he'),?_,?_⟩,fun b hb=>⟨by have:=hF' b hb;simpa using this,.inl hb⟩,fun b' _ hb=>setObj_other b' fun e=>hb (by rw [e];exact f1)⟩
   ·intro x hx
    obtain ⟨i,hi⟩:=List.mem_iff_getElem?.1 hx
    rw [Array.getElem?_toList,Array.getElem?_modify] at hi
    by_cases hij:j=i
    ·subst hij
     rw [if_pos rfl,a3] at hi
     simp at hi
     subst hi
     exact ⟨s,b,rfl,by simp [mput],rfl⟩
    ·rw [if_neg hij] at hi
     have hx':x∈es.toList:=Array.mem_toList_iff.2 (Array.mem_of_getElem? hi)
     obtain ⟨k',c,e1,e2,e3⟩:=h3 x hx'
     have : k'≠s:=fun q=>by
      have hnd:=((stamped_iff es clock).1 h2).2.2
      have hp:=List.pairwise_iff_getElem.1 hnd
      have li:i < es.toList.length:=by
       rcases Nat.lt_or_ge i es.size with q|q
       ·simpa using q
       ·rw [Array.getElem?_eq_none q] at hi;cases hi
      have lj:j < es.toList.length:=by
       rcases Nat.lt_or_ge j es.size with q|q
       ·simpa using q
       ·rw [Array.getElem?_eq_none q] at a3;cases a3
      have gi:es.toList[i]=x:=by
       have:es.toList[i]?=some x:=by simpa using hi
       rw [List.getElem?_eq_getElem li] at this;exact Option.some.inj this
      have gj:es.toList[j]=e:=by
       have:es.toList[j]?=some e:=by simpa using a3
       rw [List.getElem?_eq_getElem lj] at this;exact Option.some.inj this
      rcases Nat.lt_or_gt_of_ne hij with q2|q2
      ·exact hp j i lj li q2 (by rw [gi,gj,a4,e1,q])
      ·exact hp i j li lj q2 (by rw [gi,gj,a4,e1,q])
     exact ⟨k',c,e1,by simp [mput,this,e2],e3⟩
   ·intro k' c hk
    have hmem:∃ x∈es.toList,x.key=S k':=by
     simp only [mput] at hk
     split at hk
     ·rename_i q;subst q;exact ⟨e,Array.mem_toList_iff.2 (Array.mem_of_getElem? a3),a4⟩
     ·exact h4 k' c hk
    obtain ⟨x,hx,e1⟩:=hmem
    have:S k'∈es.toList.map (·.key):=List.mem_map.2 ⟨x,hx,e1⟩
    rw [←hmk] at this
    obtain ⟨y,hy,e2⟩:=List.mem_map.1 this
    exact ⟨y,hy,e2⟩
end
variable {D:List Deferred}
section
variable {P:Program} {ops:Array Oper} {w wx:World} {N x:Nat} {LU LF:Array Bool→Act→Prop} {dx:Option Tmp} {vx:Value}
def AU (P:Program) (ops:Array Oper) (w wx:World) (N x:Nat) (dx:Option Tmp) (vx:Value) (LU LF:Array Bool→Act→Prop):Nat→Array Bool→Act→Prop
 | 0,listed,a=>LU listed a∧LF (listed.setIfInBounds x true) (a.put dx vx)
 | f+1,listed,a=>Region.ready .any ops listed≠[]∧∀ i∈Region.ready .any ops listed,(i < N∧stOp P ops w i (AU P ops w wx N x dx vx LU LF f (listed.setIfInBounds i true)) a)∨(i=x∧wpAnyL P .any ops wx N LF (f+1) (listed.setIfInBounds x true) (a.put dx vx))
theorem AU_any {R:Exit→Act→World→Prop} {g:Nat} (hrun:∀ (K:Act→World→Prop) (a:Act),K (a.put dx vx) wx→wpOp P ops R x K a w) (hLU:∀ l a,LU l a→wpAny P .any ops R (g+1) l a w) (hLF:∀ l a,LF l a→wpAny P .any ops R g l a wx) :
 ∀ (f:Nat) (l:Array Bool) (a:Act),AU P ops w wx N x dx vx LU LF f l a→wpAny P .any ops R (f+(g+1)) l a w
 | 0,l,a,h=>by rw [Nat.zero_add];exact hLU _ _ h.1
 | f + 1,l,a,h=>by
   rw [show f+1+(g+1)=(f+(g+1))+1 by omega]
   refine ⟨fun h0=>absurd h0 h.1,fun i hi=>?_⟩
   rcases h.2 i hi with ⟨_,hs⟩|⟨rfl,hF⟩
   ·exact wpOp_of_stOp (fun a' h'=>AU_any hrun hLU hLF f _ a' h') hs
   ·refine hrun _ _ ?_
    have:=wpAny_of_head (w:=wx) hLF (f+1) _ _ hF
    rwa [show f+1+g=f+(g+1) by omega] at this
structure HInvX (ops:Array Oper) (N x:Nat) (listed:Array Bool):Prop where
 size:listed.size=ops.size
 closed:∀ j oj,ops[j]?=some oj→listed.getD j false=true→∀ e∈oj.after,Region.binds .any e=true→listed.getD e.on false=true
 tail:∀ t,N≤t→t < ops.size→t≠x→listed.getD t true=false
theorem HInvX.set {i:Nat} {listed:Array Bool} (inv:HInvX ops N x listed) (hi:i∈Region.ready .any ops listed) (hin:i < N∨i=x):HInvX ops N x (listed.setIfInBounds i true):=by
 obtain ⟨_,oi,hoi,hall⟩:=mem_ready.1 hi
 refine ⟨by simp [inv.size],fun j oj hj hl e he hb=>?_,fun t ht ht' hx=>by rw [getD_set_ne true zo];exact inv.tail t ht ht' hx⟩
 by_cases hij:i=j
 ·subst hij
  have:oj=oi:=Option.some.inj (hj.symm.trans hoi)
  subst this
  exact getD_set_true (hall e he hb)
 ·rw [getD_set_ne false hij] at hl
  exact getD_set_true (inv.closed j oj hj hl e he hb)
theorem waitsX {listed:Array Bool} (hs:Region.sinkB .any ops N=true) (hl:lateB ops N x=true) (hN:N < x) (inv:HInvX ops N x listed) :
 ∀ (d i:Nat),N - i=d→i < N→listed.getD i true=false→∀ t,N≤t→t≠x→t ∉ Region.ready .any ops listed:=by
 intro d
 induction d using Nat.strongRecOn with
 | _ d ih =>
   intro i hd hi hun t ht htx hr
   obtain ⟨_,ot,hot,hall⟩:=mem_ready.1 hr
   have htlt:t < ops.size:=(Array.getElem?_eq_some_iff.1 hot).1
   by_cases htn:t=N
   ·subst htn
    have h1:=List.all_eq_true.1 hs i (List.mem_range.2 hi)
    obtain ⟨j,hj,hj2⟩:=List.any_eq_true.1 h1
    simp only [Bool.and_eq_true,decide_eq_true_eq] at hj2
    obtain ⟨oj,hoj,e,he,hb,hon⟩:=Region.waitsFor_spec hj2.2
    have hjle:j≤t:=by have:=List.mem_range.1 hj;omega
    by_cases hjt:j=t
    ·subst hjt
     have:oj=ot:=Option.some.inj (hoj.symm.trans hot)
     subst this
     have h2:=hall e he hb
     rw [hon,getD_both hun] at h2
     cases h2
    ·cases hl':listed.getD j false with
     | true =>
       have h2:=inv.closed j oj hoj hl' e he hb
       rw [hon,getD_both hun] at h2
       cases h2
     | false =>
       have hjs:j < listed.size:=by rw [inv.size];omega
       exact ih (t - j) zo j rfl zo (getD_in hjs hl') t (Nat.le_refl _) htx hr
   ·have h1:=List.all_eq_true.1 hl t (List.mem_range.2 htlt)
    simp only [Bool.or_eq_true,decide_eq_true_eq,beq_iff_eq] at h1
    rcases h1 with (h1|h1)|h1
    ·omega
    ·exact htx h1
    ·obtain ⟨j,hj,hj2⟩:=List.any_eq_true.1 h1
     simp only [Bool.and_eq_true,decide_eq_true_eq,Bool.not_eq_true',beq_eq_false_iff_ne] at hj2
     have hjt:=List.mem_range.1 hj
     obtain ⟨o',ho',e,he,hb,hon⟩:=Region.waitsFor_spec hj2.2
     have:o'=ot:=Option.some.inj (ho'.symm.trans hot)
     subst this
     have h2:=hall e he hb
     rw [hon,getD_both (inv.tail j hj2.1.1 zo hj2.1.2)] at h2
     cases h2
def FreeX (ops:Array Oper) (i:Nat) (oi:Oper) (listed:Array Bool):Prop:=∀ j oj,ops[j]?=some oj→j≠i→listed.getD j true=false→(∀ e∈oj.after,Region.binds .any e=true→e.on≠i)→oi.apart ops oj=true
theorem FreeX.set {i j:Nat} {oi:Oper} {listed:Array Bool} (h:FreeX ops i oi listed) (hj:listed.getD j true=false):FreeX ops i oi (listed.setIfInBounds j true):=by
 intro k ok hk hki hun hno
 refine h k ok hk hki ?_ hno
 by_cases hjk:j=k
 ·subst hjk;exact hj
 ·rw [getD_set_ne true hjk] at hun;exact hun
theorem not_on {i:Nat} {oj:Oper} {listed:Array Bool} (hun:listed.getD i true=false) (hall:∀ e∈oj.after,Region.binds .any e=true→listed.getD e.on false=true):∀ e∈oj.after,Region.binds .any e=true→e.on≠i:=fun e he hb heq=>by
 have h1:=hall e he hb
 rw [heq,getD_both hun] at h1
 cases h1
theorem keepAt {i:Nat} {oi oj:Oper} {v u:Value} {a:Act} {w:World} (hsi:∀ cs b,oi.op≠.select cs b) (hap:oi.apart ops oj=true) (h:YieldsAt P ops w oi v a):YieldsAt P ops w oi v (a.put oj.dst u):=by
 obtain ⟨_,_,h3⟩:=Oper.apart_spec hap
 exact h.of_same (execOp_put oi hsi a oj.dst u h3) (wanted_put oi a oj.dst u h3)
theorem headF_first {i:Nat} {oi:Oper} {v:Value} (hi:ops[i]?=some oi) (hsel:∀ (j:Nat) (o:Oper) cs b,ops[j]?=some o→o.op≠.select cs b)
 (hs:Region.sinkB .any ops N=true) (hl:lateB ops N x=true) (hN:N < x) (hin:i < N) (hdone:∀ listed a,LF listed a→∀ j∈Region.ready .any ops listed,N≤j) :
 ∀ (f:Nat) (listed:Array Bool) (a:Act),HInvX ops N x listed→listed.getD x true=true→FreeX ops i oi listed→i∈Region.ready .any ops listed→YieldsAt P ops wx oi v a →
   wpAnyL P .any ops wx N LF f (listed.setIfInBounds i true) (a.put oi.dst v)→wpAnyL P .any ops wx N LF (f+1) listed a:=by
 intro f
 induction f with
 | zero =>
   intro listed a inv hx hfree hr hy H
   have hun:=(mem_ready.1 hr).1
   refine ⟨fun h=>(by rw [h] at hr;cases hr),fun j hj=>?_⟩
   have hjx:j≠x:=fun e=>by rw [e] at hj;have:=(mem_ready.1 hj).1;rw [hx] at this;cases this
   have hjn:j < N:=(Nat.lt_or_ge j N).resolve_right fun h=>waitsX hs hl hN inv _ i rfl hin hun j h hjx hj
   refine ⟨hjn,?_⟩
   by_cases hji:j=i
   ·subst hji;exact hy.stOp hi H
   ·have:=hdone _ _ H j (ready_mono hj hji)
    omega
 | succ f ih =>
   intro listed a inv hx hfree hr hy H
   have hun:=(mem_ready.1 hr).1
   refine ⟨fun h=>(by rw [h] at hr;cases hr),fun j hj=>?_⟩
   have hjx:j≠x:=fun e=>by rw [e] at hj;have:=(mem_ready.1 hj).1;rw [hx] at this;cases this
   have hjn:j < N:=(Nat.lt_or_ge j N).resolve_right fun h=>waitsX hs hl hN inv _ i rfl hin hun j h hjx hj
   refine ⟨hjn,?_⟩
   by_cases hji:j=i
   ·subst hji;exact hy.stOp hi H
   ·have h1:=(H.2 j (ready_mono hj hji)).2
    obtain ⟨hjun,oj,hoj,hall⟩:=mem_ready.1 hj
    have hap:=hfree j oj hoj hji hjun (not_on hun hall)
    obtain ⟨p1,p2,p3⟩:=Oper.apart_spec hap
    obtain ⟨u,hyj,hK⟩:=yieldsAt_of_stOp hoj h1
    have hyj':YieldsAt P ops wx oj u a:=hyj.of_same (execOp_put oj (fun cs b=>hsel j oj cs b hoj) a oi.dst v p1).symm (wanted_put oj a oi.dst v p1).symm
    refine hyj'.stOp hoj ?_
    refine ih (listed.setIfInBounds j true) (a.put oj.dst u) (inv.set hj (.inl hjn)) (by rw [getD_set_ne true hjx];exact hx) (hfree.set hjun) (ready_mono hr (Ne.symm hji)) (keepAt (i:=i) (fun cs b=>hsel i oi cs b hi) hap hy) ?_
    rw [Array.setIfInBounds_comm _ _ hji,←Act.put_comm a v u p2]
    exact hK
theorem headU_first {i:Nat} {oi ox:Oper} {v:Value} (hi:ops[i]?=some oi) (hox:ops[x]?=some ox) (hdx:ox.dst=dx) (hsel:∀ (j:Nat) (o:Oper) cs b,ops[j]?=some o→o.op≠.select cs b)
 (hs:Region.sinkB .any ops N=true) (hl:lateB ops N x=true) (hN:N < x) (hin:i < N) (hdU:∀ listed a,LU listed a→∀ j∈Region.ready .any ops listed,N≤j) (hdF:∀ listed a,LF listed a→∀ j∈Region.ready .any ops listed,N≤j) :
 ∀ (f:Nat) (listed:Array Bool) (a:Act),HInvX ops N x listed→listed.getD x true=false→FreeX ops i oi listed→i∈Region.ready .any ops listed→YieldsAt P ops w oi v a→YieldsAt P ops wx oi v a →
   AU P ops w wx N x dx vx LU LF f (listed.setIfInBounds i true) (a.put oi.dst v)→AU P ops w wx N x dx vx LU LF (f+1) listed a:=by
 have hix:i≠x:=by omega
 have hxs:x < ops.size:=(Array.getElem?_eq_some_iff.1 hox).1
 have fire:∀ (f:Nat) (listed:Array Bool) (a:Act),HInvX ops N x listed→listed.getD x true=false→FreeX ops i oi listed→i∈Region.ready .any ops listed→x∈Region.ready .any ops listed→YieldsAt P ops wx oi v a →
  wpAnyL P .any ops wx N LF f ((listed.setIfInBounds i true).setIfInBounds x true) ((a.put oi.dst v).put dx vx)→wpAnyL P .any ops wx N LF (f+1) (listed.setIfInBounds x true) (a.put dx vx):=by
  intro f listed a inv hx hfree hr hrx hy H
  obtain ⟨_,ox',hox',hall⟩:=mem_ready.1 hrx
  have:ox'=ox:=Option.some.inj (hox'.symm.trans hox)
  subst this
  have hun:=(mem_ready.1 hr).1
  have hap:=hfree x ox' hox (fun e=>hix e.symm) hx (not_on hun hall)
  obtain ⟨p1,p2,p3⟩:=Oper.apart_spec hap
  subst hdx
  refine headF_first hi hsel hs hl hN hin hdF f _ _ (inv.set hrx (.inr rfl)) ?_ (hfree.set hx) (ready_mono hr hix) (keepAt (i:=i) (fun cs b=>hsel i oi cs b hi) hap hy) ?_
  ·have hsz:x < listed.size:=by rw [inv.size];exact hxs
   simp [hsz]
  ·rw [Array.setIfInBounds_comm _ _ (fun e=>hix e.symm),←Act.put_comm a v vx p2]
   exact H
 intro f
 induction f with
 | zero =>
   intro listed a inv hx hfree hr hy hyx H
   have hun:=(mem_ready.1 hr).1
   refine ⟨fun h=>(by rw [h] at hr;cases hr),fun j hj=>?_⟩
   by_cases hjx:j=x
   ·subst hjx
    exact .inr ⟨rfl,fire 0 listed a inv hx hfree hr hj hyx H.2⟩
   ·have hjn:j < N:=(Nat.lt_or_ge j N).resolve_right fun h=>waitsX hs hl hN inv _ i rfl hin hun j h hjx hj
    refine .inl ⟨hjn,?_⟩
    by_cases hji:j=i
    ·subst hji;exact hy.stOp hi H
    ·have:=hdU _ _ H.1 j (ready_mono hj hji)
     omega
 | succ f ih =>
   intro listed a inv hx hfree hr hy hyx H
   have hun:=(mem_ready.1 hr).1
   refine ⟨fun h=>(by rw [h] at hr;cases hr),fun j hj=>?_⟩
   by_cases hjx:j=x
   ·subst hjx
    rcases H.2 j (ready_mono hj (fun e=>hix e.symm)) with ⟨h1,_⟩|⟨_,h1⟩
    ·omega
    ·exact .inr ⟨rfl,fire (f+1) listed a inv hx hfree hr hj hyx h1⟩
   ·have hjn:j < N:=(Nat.lt_or_ge j N).resolve_right fun h=>waitsX hs hl hN inv _ i rfl hin hun j h hjx hj
    refine .inl ⟨hjn,?_⟩
    by_cases hji:j=i
    ·subst hji;exact hy.stOp hi H
    ·rcases H.2 j (ready_mono hj hji) with ⟨_,h1⟩|⟨h1,_⟩
     ·obtain ⟨hjun,oj,hoj,hall⟩:=mem_ready.1 hj
      have hap:=hfree j oj hoj hji hjun (not_on hun hall)
      obtain ⟨p1,p2,p3⟩:=Oper.apart_spec hap
      obtain ⟨u,hyj,hK⟩:=yieldsAt_of_stOp hoj h1
      have hyj':YieldsAt P ops w oj u a:=hyj.of_same (execOp_put oj (fun cs b=>hsel j oj cs b hoj) a oi.dst v p1).symm (wanted_put oj a oi.dst v p1).symm
      refine hyj'.stOp hoj ?_
      refine ih (listed.setIfInBounds j true) (a.put oj.dst u) (inv.set hj (.inl hjn)) (by rw [getD_set_ne true hjx];exact hx) (hfree.set hjun) (ready_mono hr (Ne.symm hji)) (keepAt (i:=i) (fun cs b=>hsel i oi cs b hi) hap hy) (keepAt (i:=i) (fun cs b=>hsel i oi cs b hi) hap hyx) ?_
      rw [Array.setIfInBounds_comm _ _ hji,←Act.put_comm a v u p2]
      exact hK
     ·omega
theorem listN_spec (m:Nat):∀ (f k:Nat) (l:Array Bool),(listN m f k l).size=l.size∧∀ j b,(listN m f k l).getD j b=if k≤j∧j < k+f∧j < l.size then true else l.getD j b
 | 0,k,l=>⟨rfl,fun j b=>by rw [if_neg zo];rfl⟩
 | f + 1,k,l=>by
   obtain ⟨h1,h2⟩:=listN_spec m f (k+1) (l.setIfInBounds k true)
   refine ⟨by rw [listN,h1];simp,fun j b=>?_⟩
   rw [listN,h2]
   simp only [Array.size_setIfInBounds]
   by_cases hjk:k=j
   ·subst hjk
    rw [if_neg zo]
    by_cases hs:k < l.size
    ·rw [if_pos ⟨Nat.le_refl _,by omega,hs⟩];simp [hs]
    ·rw [if_neg zo];simp only [Array.getD_eq_getD_getElem?,Array.getElem?_setIfInBounds];simp [Array.getElem?_eq_none (Nat.not_lt.1 hs),hs]
   ·rw [getD_set_ne b hjk]
    by_cases hc:k+1≤j∧j < k+1+f∧j < l.size
    ·rw [if_pos hc,if_pos zo]
    ·rw [if_neg hc,if_neg zo]
theorem headU_lex {n:Nat} {ox:Oper} {A B:Fr→Prop} {LN:Array Bool} (hw:Ext w wx) (hox:ops[x]?=some ox) (hdx:ox.dst=dx) (hdn:∀ k,dx=some k→k < n) (hsel:Region.noSelect ops=true)
 (hs:Region.sinkB .any ops N=true) (hl:lateB ops N x=true) (hN:N < x) (hU:∀ j∈Region.ready .any ops LN,N≤j) (hF:∀ j∈Region.ready .any ops (LN.setIfInBounds x true),N≤j) :
 ∀ (l:List Oper) (k:Nat) (listed:Array Bool) (a:Act) (ρ:Fr),(∀ j,j < l.length→l[j]?=ops[k+j]?)→k+l.length=N→HInvX ops N x listed→listed.getD x true=false→headBX ops l.length k listed=true→listN ops.size l.length k listed=LN →
 (∀ o∈l,plainM (cm P o)=true)→(∀ o∈l,okOp n ops o=true)→Rel D n a ρ→O P (fun ρ' w'=>w'=w→A ρ'∧B (updO ρ' dx vx)) (l.map (cop P ops)) ρ w →
 AU P ops w wx N x dx vx (fun l a=>l=LN∧∃ ρ,Rel D n a ρ∧A ρ) (fun l a=>l=LN.setIfInBounds x true∧∃ ρ,Rel D n a ρ∧B ρ) l.length listed a
 | [],k,listed,a,ρ,_,hk,inv,hx,_,hLN,_,_,hr,h=>by
   have hL:listed=LN:=hLN
   obtain ⟨h1,h2⟩:=h rfl
   exact ⟨⟨hL,ρ,hr,h1⟩,by rw [hL],_,hr.put _ _ hdn,h2⟩
 | o :: l,k,listed,a,ρ,hlk,hk,inv,hx,hB,hLN,hpl,hok,hr,h=>by
   have h0:ops[k]?=some o:=by simpa using (hlk 0 ze).symm
   simp only [List.length_cons,headBX,Bool.and_eq_true] at hB
   obtain ⟨⟨hrd,hf⟩,hB'⟩:=hB
   have hkn:k < N:=by simp only [List.length_cons] at hk;omega
   have hkx:k≠x:=by omega
   have hr':k∈Region.ready .any ops listed:=by simpa using hrd
   have ho:=hok o ze
   have hp:=hpl o ze
   have hd:∀ j,o.dst=some j→j < n:=by
    intro j hj
    simp only [okOp,hj,Bool.and_eq_true,decide_eq_true_eq] at ho
    exact ho.1
   have hwt:=wanted_eq (P:=P) hr ops o ho
   have hso:=Region.noSelect_spec hsel
   have step:∀ v,YieldsAt P ops w o v a→YieldsAt P ops wx o v a→O P (fun ρ' w'=>w'=w→A ρ'∧B (updO ρ' dx vx)) (l.map (cop P ops)) (updO ρ o.dst v) w →
    AU P ops w wx N x dx vx (fun l a=>l=LN∧∃ ρ,Rel D n a ρ∧A ρ) (fun l a=>l=LN.setIfInBounds x true∧∃ ρ,Rel D n a ρ∧B ρ) (l.length+1) listed a:=fun v y1 y2 hO =>
    headU_first h0 hox hdx hso hs hl hN hkn (fun l a hL=>by rw [hL.1];exact hU) (fun l a hL=>by rw [hL.1];exact hF) l.length listed a inv hx (Region.free_spec h0 hf) hr' y1 y2
     (headU_lex hw hox hdx hdn hsel hs hl hN hU hF l (k+1) _ _ _ (fun j hj=>by have:=hlk (j+1) (by simp;omega);simpa [Nat.add_assoc,Nat.add_comm 1 j] using this) (by simp only [List.length_cons] at hk;omega) (inv.set hr' (.inl hkn)) (by rw [getD_set_ne true hkx];exact hx) hB' hLN
      (fun o ho=>hpl o (by simp [ho])) (fun o ho=>hok o (by simp [ho])) (hr.put _ v hd) hO)
   have h':if gF ρ (cop P ops o).g=true then OS P o.dst (cm P o) ρ w (O P (fun ρ' w'=>w'=w→A ρ'∧B (updO ρ' dx vx)) (l.map (cop P ops))) else O P (fun ρ' w'=>w'=w→A ρ'∧B (updO ρ' dx vx)) (l.map (cop P ops)) (updO ρ o.dst undef) w:=h
   by_cases hg:gF ρ (cop P ops o).g=true
   ·rw [if_pos hg] at h'
    have hm:okM ρ w (cm P o)∧O P (fun ρ' w'=>w'=w→A ρ'∧B (updO ρ' dx vx)) (l.map (cop P ops)) (updO ρ o.dst (vM ρ w (cm P o))) (wM ρ w (cm P o)):=by
     revert h' hp
     generalize cm P o=m
     intro hp h'
     cases m<;>first|exact h'|exact absurd hp (by simp [plainM])
    obtain ⟨e1,e2,e3,e4⟩:=okM_ext hw hp hm.1
    have hrun:∀ {u:World},okM ρ u (cm P o)→wM ρ u (cm P o)=u→vM ρ u (cm P o)=vM ρ w (cm P o)→YieldsAt P ops u o (vM ρ w (cm P o)) a:=by
     intro u g1 g2 g3
     refine .inl ⟨by rw [hwt];exact hg,?_⟩
     rw [hr.evalF]
     rcases run_cm (P:=P) (w:=u) o g1 with h4|⟨h4,h5⟩
     ·left;rw [h4,g2,g3]
     ·right;left;exact ⟨by rw [h4,g2],by rw [←g3,h5]⟩
    refine step _ (hrun hm.1 e4 rfl) (hrun e1 e3 e2) ?_
    rw [e4] at hm
    exact hm.2
   ·rw [if_neg hg] at h'
    have hy:∀ u,YieldsAt P ops u o undef a:=fun u=>.inr ⟨by rw [hwt];simpa using hg,rfl⟩
    exact step _ (hy _) (hy _) h'
end
end Go.Proofs.YtllanbmpacgigaaGreatDoor
