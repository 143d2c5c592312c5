/- Texts of the proof, joined. -/
import Derived.WalkKit
import Derived.Scope
import Derived.WalkSpells
import Derived.WalkLawsBesides
import Derived.ChangeKeysEq
import Derived.StillTail
import Derived.Deep.Quiet
namespace Go.Proofs.YtllanbmpacgigaaGreatDoor
theorem a3 {p0 p1 p2:Prop} (h0:p0) (h1:p1) (h2:p2):p0∧p1∧p2:=⟨h0,h1,h2⟩
theorem a4 {p0 p1 p2 p3:Prop} (h0:p0) (h1:p1) (h2:p2) (h3:p3):p0∧p1∧p2∧p3:=⟨h0,h1,h2,h3⟩
theorem a5 {p0 p1 p2 p3 p4:Prop} (h0:p0) (h1:p1) (h2:p2) (h3:p3) (h4:p4):p0∧p1∧p2∧p3∧p4:=⟨h0,h1,h2,h3,h4⟩
theorem a6 {p0 p1 p2 p3 p4 p5:Prop} (h0:p0) (h1:p1) (h2:p2) (h3:p3) (h4:p4) (h5:p5):p0∧p1∧p2∧p3∧p4∧p5:=⟨h0,h1,h2,h3,h4,h5⟩
theorem a7 {p0 p1 p2 p3 p4 p5 p6:Prop} (h0:p0) (h1:p1) (h2:p2) (h3:p3) (h4:p4) (h5:p5) (h6:p6):p0∧p1∧p2∧p3∧p4∧p5∧p6:=⟨h0,h1,h2,h3,h4,h5,h6⟩
theorem a8 {p0 p1 p2 p3 p4 p5 p6 p7:Prop} (h0:p0) (h1:p1) (h2:p2) (h3:p3) (h4:p4) (h5:p5) (h6:p6) (h7:p7):p0∧p1∧p2∧p3∧p4∧p5∧p6∧p7:=⟨h0,h1,h2,h3,h4,h5,h6,h7⟩
theorem a9 {p0 p1 p2 p3 p4 p5 p6 p7 p8:Prop} (h0:p0) (h1:p1) (h2:p2) (h3:p3) (h4:p4) (h5:p5) (h6:p6) (h7:p7) (h8:p8):p0∧p1∧p2∧p3∧p4∧p5∧p6∧p7∧p8:=⟨h0,h1,h2,h3,h4,h5,h6,h7,h8⟩
theorem a10 {p0 p1 p2 p3 p4 p5 p6 p7 p8 p9:Prop} (h0:p0) (h1:p1) (h2:p2) (h3:p3) (h4:p4) (h5:p5) (h6:p6) (h7:p7) (h8:p8) (h9:p9):p0∧p1∧p2∧p3∧p4∧p5∧p6∧p7∧p8∧p9:=⟨h0,h1,h2,h3,h4,h5,h6,h7,h8,h9⟩
theorem a11 {p0 p1 p2 p3 p4 p5 p6 p7 p8 p9 p10:Prop} (h0:p0) (h1:p1) (h2:p2) (h3:p3) (h4:p4) (h5:p5) (h6:p6) (h7:p7) (h8:p8) (h9:p9) (h10:p10):p0∧p1∧p2∧p3∧p4∧p5∧p6∧p7∧p8∧p9∧p10:=⟨h0,h1,h2,h3,h4,h5,h6,h7,h8,h9,h10⟩
theorem a12 {p0 p1 p2 p3 p4 p5 p6 p7 p8 p9 p10 p11:Prop} (h0:p0) (h1:p1) (h2:p2) (h3:p3) (h4:p4) (h5:p5) (h6:p6) (h7:p7) (h8:p8) (h9:p9) (h10:p10) (h11:p11):p0∧p1∧p2∧p3∧p4∧p5∧p6∧p7∧p8∧p9∧p10∧p11:=⟨h0,h1,h2,h3,h4,h5,h6,h7,h8,h9,h10,h11⟩
theorem aI {a b:Prop} (ha:a) (hb:b):a∧b:=⟨ha,hb⟩
theorem zxf {p:Prop} (n:False:=by first|(with_reducible exact hc)|omega):p:=n.elim
structure Wr (Q:Prop):Prop where
 u:Q
theorem sM {P Q:Prop} (h:Q) (n:Wr Q→P:=by intro zh;(simp (disch:=first|exact dis|fail) only [push_cast,↓reduceIte,Nat.reduceAdd,Nat.reduceLeDiff,Nat.reduceEqDiff,Nat.reduceLT,Int.reduceToNat,fct]);exact zh.1):P:=n ⟨h⟩
theorem sK {P Q:Prop} (h:Q) (n:Wr Q→P:=by intro zh;(have zk:=hK;clear zk;simp (disch:=first|exact dis|fail) only [push_cast,↓reduceIte,Nat.reduceAdd,Nat.reduceLeDiff,Nat.reduceEqDiff,Nat.reduceLT,Int.reduceToNat,fct]);exact zh.1):P:=n ⟨h⟩
theorem sL {P Q:Prop} (h:Q) (n:Wr Q→P:=by intro zh;((first|have zk:=hK|have zk:=hK2);clear zk;simp (disch:=first|exact dis|fail) only [push_cast,↓reduceIte,Nat.reduceAdd,Nat.reduceLeDiff,Nat.reduceEqDiff,Nat.reduceLT,Int.reduceToNat,fct]);exact zh.1):P:=n ⟨h⟩
theorem rM {P Q:Prop} (h:Q) (n:Wr Q→P:=by intro zh;((first|refine G.r1 ?_|refine G.r2 ?_|refine G.r3 ?_|refine G.r0 ?_|refine G.d0 ?_);(try simp (disch:=first|exact dis|fail) only [push_cast,↓reduceIte,Nat.reduceAdd,Nat.reduceLeDiff,Nat.reduceEqDiff,Nat.reduceLT,Int.reduceToNat,fct]));exact zh.1):P:=n ⟨h⟩
theorem aM {P Q:Prop} (h:Q) (n:Wr Q→P:=by intro zh;((with_reducible apply G.a);exact rfl);exact zh.1):P:=n ⟨h⟩
theorem kM {P Q:Prop} (h:Q) (n:Wr Q→P:=by intro zh;with_reducible exact hK _ _ zh.1):P:=n ⟨h⟩
theorem gS {P Q:Prop} (h:Q) (n:Wr Q→P:=by intro zh;((with_reducible refine gSt ?_);refine zs2 ?_);exact zh.1):P:=n ⟨h⟩
theorem zw {p:Prop} (n:p:=by repeat first|exact Sub.rfl'|exact Sub.n|(refine Sub.c (by repeat constructor) ?_)|refine Sub.skip ?_):p:=n
theorem zv {p:Prop} (n:p:=by repeat first|exact Sub.rfl'|(refine Sub.c (by repeat constructor) ?_)|refine Sub.skip ?_):p:=n
theorem zu {p:Prop} (n:p:=by repeat first|exact Sub.rfl'|exact Sub.nil0|(refine Sub.c (by repeat constructor) ?_)|refine Sub.skip ?_):p:=n
theorem zr {p:Prop} (n:p:=by repeat constructor):p:=n
theorem zo {p:Prop} (n:p:=by omega):p:=n
theorem zf {p:Prop} (n:p:=by kernel_rfl):p:=n
theorem ze {p:Prop} (n:p:=by simp):p:=n
theorem zd {p:Prop} (n:p:=by decide):p:=n
theorem kN {P Q:Prop} (h:Q) (n:Wr Q→P:=by intro zh;with_reducible exact hK _ zh.1):P:=n ⟨h⟩
theorem kO {P Q:Prop} (h:Q) (n:Wr Q→P:=by intro zh;with_reducible exact hK2 _ zh.1):P:=n ⟨h⟩
theorem zB {P Q:Prop} (h:Q) (n:Wr Q→P:=by intro zh;(first|refine zalc ?_|refine zbsl ?_|((with_reducible refine gBox ?_);refine zbox ?_));exact zh.1):P:=n ⟨h⟩
theorem zC {P Q:Prop} (h:Q) (n:Wr Q→P:=by intro zh;(first|refine zalc ?_|((with_reducible refine gBox ?_);refine zbox ?_));exact zh.1):P:=n ⟨h⟩
theorem bM {P Q R:Prop} (h:Q) (g:R) (n:Wr Q→Wr R→P:=by intro zh zg;first|exact brO_n zh.1 zg.1|exact brQ_n zh.1 zg.1):P:=n ⟨h⟩ ⟨g⟩
set_option linter.unusedSimpArgs false
set_option linter.unusedVariables false
open Go.RowKit
abbrev Fr:=Nat→Value
def upd (ρ:Fr) (d:Nat) (v:Value):Fr:=fun t=>if t=d then v else ρ t
def updO (ρ:Fr):Option Nat→Value→Fr
 | some d,v=>upd ρ d v
 | none,_=>ρ
def ev (ρ:Fr):Operand→Value
 | .tmp t=>ρ t
 | .const v=>v
 | .global g=>.pointer (some ⟨g,0,none⟩)
 | .func f=>.func (.func f) #[] #[]
theorem upd_same (ρ:Fr) (d:Nat) (v:Value):upd ρ d v d=v:=by simp [upd]
theorem upd_ne (ρ:Fr) (d:Nat) (v:Value) (t:Nat) (h:t≠d):upd ρ d v t=ρ t:=by simp [upd,h]
theorem upd_at (ρ:Fr) (d:Nat) (v:Value) (t:Nat):upd ρ d v t=if t=d then v else ρ t:=rfl
def Rel (D:List Deferred) (n:Nat) (a:Act) (ρ:Fr):Prop:=a.defers=D∧a.tmps.size=n∧∀ t,a.tmps.getD t undef=ρ t
theorem Rel.eval {D:List Deferred} {n:Nat} {a:Act} {ρ:Fr} (h:Rel D n a ρ) (x:Operand):a.eval x=ev ρ x:=by
 cases x<;>simp [Act.eval,ev,h.2.2]
theorem Rel.evalF {D:List Deferred} {n:Nat} {a:Act} {ρ:Fr} (h:Rel D n a ρ):a.eval=ev ρ:=funext h.eval
theorem Rel.put {D:List Deferred} {n:Nat} {a:Act} {ρ:Fr} (h:Rel D n a ρ) (d:Option Nat) (v:Value) (hd:∀ k,d=some k→k < n):Rel D n (a.put d v) (updO ρ d v):=by
 cases d with
 | none=>exact h
 | some k =>
   refine ⟨h.1,by simp [Act.put,h.2.1],fun t=>?_⟩
   have hk:=hd k rfl
   have:=h.2.2 t
   by_cases e:t=k
   ·subst e
    simp [Act.put,updO,upd_same,h.2.1,hk]
   ·have e':¬ k=t:=fun x=>e x.symm
    simp only [Act.put,updO,upd_ne _ _ _ _ e]
    rw [←this]
    simp [Array.getElem?_setIfInBounds,e']
def Run (P:Program) (fn:Func) (n:Nat) (k:List Item) (R:Value→World→Prop) (ρ:Fr) (w:World):Prop :=
 ∀ (b:Frame) (a:Act) (cs:List Frame),Rel [] n a ρ→b.kind=.normal→P.funcs[b.fn]?=some fn →
   ∃ v w' fr,R v w'∧Steps P (lone (b.at a k) cs w) (lone fr cs w')∧fr.fn=b.fn∧fr.leaving P w' (.returned v)
section
variable {P:Program} {fn:Func} {n:Nat} {k:List Item} {R:Value→World→Prop} {ρ:Fr} {w:World}
theorem Run.step {k':List Item} (hs:∀ (b:Frame) (a:Act) (cs:List Frame),Rel [] n a ρ→step P (lone (b.at a k) cs w)=.next (lone (b.at a k') cs w)) (h:Run P fn n k' R ρ w):Run P fn n k R ρ w :=
 fun b a cs hr hk hf=>let ⟨v,w',fr,h1,h2,h3,h4⟩:=h b a cs hr hk hf;⟨v,w',fr,h1,.head (hs b a cs hr) h2,h3,h4⟩
theorem Run.mono {R':Value→World→Prop} (h:Run P fn n k R ρ w) (hr:∀ v w,R v w→R' v w):Run P fn n k R' ρ w :=
 fun b a cs h0 hk hf=>let ⟨v,w',fr,h1,h2⟩:=h b a cs h0 hk hf;⟨v,w',fr,hr _ _ h1,h2⟩
theorem Run.skip (h:Run P fn n k R ρ w):Run P fn n (.code .skip :: k) R ρ w:=Run.step (fun _ _ _ _=>step_skip) h
theorem Run.seq {x y:Code} (h:Run P fn n (.code x :: .code y :: k) R ρ w):Run P fn n (.code (.seq x y) :: k) R ρ w:=Run.step (fun _ _ _ _=>step_seq) h
theorem Run.block {id:Nat} {c:Code} (h:Run P fn n (.code c :: .inBlock id :: k) R ρ w):Run P fn n (.code (.block id c) :: k) R ρ w:=Run.step (fun _ _ _ _=>step_block) h
theorem Run.inBlock {id:Nat} (h:Run P fn n k R ρ w):Run P fn n (.inBlock id :: k) R ρ w:=Run.step (fun _ _ _ _=>step_inBlock) h
theorem Run.label {l:Nat} (h:Run P fn n k R ρ w):Run P fn n (.code (.label l) :: k) R ρ w:=Run.step (fun _ _ _ _=>step_label) h
theorem Run.scope {c:Code} (h:Run P fn n (.code c :: .inScope c :: k) R ρ w):Run P fn n (.code (.scope c) :: k) R ρ w:=Run.step (fun _ _ _ _=>step_scope) h
theorem Run.inScope {c:Code} (h:Run P fn n k R ρ w):Run P fn n (.inScope c :: k) R ρ w:=Run.step (fun _ _ _ _=>step_inScope) h
theorem Run.exit {id:Nat} {k':List Item} (hk:exitTo id k=some k') (h:Run P fn n k' R ρ w):Run P fn n (.code (.exit id) :: k) R ρ w:=Run.step (fun _ _ _ _=>step_exit hk) h
theorem Run.cond {c:Operand} {x y:Code} {t:Bool} (hc:ev ρ c=.bool t) (ht:t=true→Run P fn n (.code x :: k) R ρ w) (hf:t=false→Run P fn n (.code y :: k) R ρ w):Run P fn n (.code (.cond c x y) :: k) R ρ w:=by
 cases t with
 | true=>exact Run.step (fun _ _ _ hr=>step_cond (t:=true) (by rw [hr.eval,hc])) (ht rfl)
 | false=>exact Run.step (fun _ _ _ hr=>step_cond (t:=false) (by rw [hr.eval,hc])) (hf rfl)
theorem Run.ret {v:Value} (hv:∀ a,Rel [] n a ρ→(results fn a.tmps).run P w=.ok v w) (h:R v w):Run P fn n (.code .ret :: k) R ρ w :=
 fun b a cs hr hk hf=>⟨v,w,_,h,.one step_ret,rfl,rfl,hr.1,hk,fn,hf,hv a hr⟩
theorem Run.done {v:Value} (hv:∀ a,Rel [] n a ρ→(results fn a.tmps).run P w=.ok v w) (h:R v w):Run P fn n [] R ρ w :=
 fun b a cs hr hk hf=>⟨v,w,_,h,.one step_end,rfl,rfl,hr.1,hk,fn,hf,hv a hr⟩
theorem Run.region_wp {id:Nat} {ops:Array Oper} {d:Bool}
 (h:∀ a,Rel [] n a ρ→(Code.region id ops d).wp P (fun e a' w'=>e=.normal∧∃ ρ',Rel [] n a' ρ'∧Run P fn n k R ρ' w') a w):Run P fn n (.code (.region id ops d) :: k) R ρ w:=by
 intro b a cs hr hk hf
 obtain ⟨e,a',w',⟨he,ρ',hr',hrun⟩,harr⟩:=h a hr b k cs
 subst he
 obtain ⟨v,w'',fr,h1,h2,h3,h4⟩:=hrun b a' cs hr' hk hf
 exact ⟨v,w'',fr,h1,Steps.trans harr h2,h3,h4⟩
end
def Ret (P:Program) (f:FuncId) (args:Array Value) (w:World) (V:Value→World→Prop):Prop:=Calls P f args w fun e w'=>∃ v,e=.returned v∧V v w'
theorem Ret.mono {P:Program} {f:FuncId} {args:Array Value} {w:World} {V V':Value→World→Prop} (h:Ret P f args w V) (hv:∀ v w',V v w'→V' v w'):Ret P f args w V' :=
 Calls.mono h fun _ _ ⟨v,he,hV⟩=>⟨v,he,hv v _ hV⟩
def frL:Nat→List Value→Fr
 | _,[]=>fun _=>undef
 | k,v :: r=>upd (frL (k+1) r) k v
theorem frL_at:∀ (args:List Value) (k t:Nat),frL k args t=if k≤t then args.getD (t - k) undef else undef:=by
 intro args
 induction args with
 | nil=>intro k t;simp [frL]
 | cons v r ih =>
   intro k t
   simp only [frL,upd_at,ih]
   by_cases h:t=k
   ·subst h;simp
   ·rw [if_neg h]
    by_cases h1:k+1≤t
    ·rw [if_pos h1,if_pos zo,show t - k=(t - (k+1))+1 from by omega];simp
    ·rw [if_neg h1,if_neg zo]
def argFr (args:List Value):Fr:=fun t=>args.getD t undef
theorem argFr_eq (args:List Value):argFr args=frL 0 args:=by funext t;simp [argFr,frL_at]
theorem Ret.of_run {P:Program} {f:FuncId} {fn:Func} {c:Code} {args:List Value} {w:World} {V:Value→World→Prop} (n:Nat) (hf:P.funcs[f]?=some fn) (hb:fn.body=some c) (hn:fn.ntmps=n) (hle:args.length≤n)
 (h:Run P fn n [.code c] V (argFr args) w):Ret P f args.toArray w V:=by
 intro cs
 let b:Frame:={ (default:Frame) with fn:=f,kind:=.normal }
 have henter:Frame.enter P f args.toArray .normal=b.at { tmps:=args.toArray++Array.replicate (fn.ntmps - args.toArray.size) undef,defers:=[] } [.code c]:=by
  simp [Frame.enter,Frame.at,hf,hb,b]
 have hrel:Rel [] n { tmps:=args.toArray++Array.replicate (fn.ntmps - args.toArray.size) undef,defers:=[] } (argFr args):=by
  refine ⟨rfl,by simp [hn];omega,fun t=>?_⟩
  simp only [argFr,Array.getD_eq_getD_getElem?,Array.getElem?_append,List.size_toArray,List.getElem?_toArray,List.getD_eq_getElem?_getD]
  split
  ·rfl
  ·rename_i hlt
   rw [List.getElem?_eq_none zo,Array.getElem?_replicate]
   split<;>rfl
 obtain ⟨v,w',fr,h1,h2,h3,h4⟩:=h b _ cs hrel rfl hf
 exact ⟨.returned v,w',fr,⟨v,rfl,h1⟩,by rw [henter];exact h2,h3,h4⟩
inductive FK|i|s|b
inductive MO
 | mv (x:Operand)|pick (c a b:Operand)|bin (op:BinOp) (x y:Operand)|eqb (neg:Bool) (x y:Operand)|eqA (neg:Bool) (ks:List FK) (x y:Operand)|un (op:UnOp) (x:Operand)
 | cvi (k:IntKind) (x:Operand)|cvs (x:Operand)|b2s (x:Operand)|len (x:Operand)|lenS (x:Operand)|idxS (x i:Operand)
 | adA (n sz:Nat) (x i:Operand)|adr (sz:Nat) (x i:Operand)|ld (n:Option Nat) (x:Operand)|st (n:Nat) (x y:Operand)|fad (off:Nat) (x:Operand)
 | fld (off:Nat) (n:Option Nat) (x:Operand)|ext (i:Nat) (x:Operand)|slS (x:Operand) (lo hi:Option Operand)|slV (sz:Nat) (x:Operand) (lo hi:Option Operand)
 | alc (t:TypeId) (cs:List Value)|nck (x:Operand)|bld (zs:List Value) (ps:List (Nat×Nat×Operand))|bsl (t:TypeId) (zs:List Value) (len:Nat) (ps:List (Nat×Nat×Operand))
 | call (f:Nat) (args:List Operand)
 | raw (op:Op) (ty:TypeId)
structure ML where
 g:Option (Nat×Bool)
 d:Option Nat
 m:MO
abbrev qq (d:Nat) (m:MO):ML:=⟨none,some d,m⟩
abbrev qn (m:MO):ML:=⟨none,none,m⟩
abbrev qm (d s:Nat):ML:=⟨none,some d,.mv (.tmp s)⟩
abbrev qt (g d:Nat) (m:MO):ML:=⟨some (g,true),some d,m⟩
abbrev qf (g d:Nat) (m:MO):ML:=⟨some (g,false),some d,m⟩
abbrev qmt (g d s:Nat):ML:=⟨some (g,true),some d,.mv (.tmp s)⟩
abbrev qmf (g d s:Nat):ML:=⟨some (g,false),some d,.mv (.tmp s)⟩
abbrev ki (n:Int):Operand:=.const (.int .i64 n)
abbrev kb (b:Bool):Operand:=.const (.bool b)
inductive DT
 | leaf (ops:List ML)|br (ops:List ML) (a b:DT)|tail (ops p:List ML)|inv (ops:List ML) (ds:List (List Nat))
inductive MC
 | skip|reg (ops:List ML)|drg (ops:List ML) (t:Option DT)|seq (a b:MC)|cond (c:Operand) (a b:MC)|blk (id:Nat) (c:MC)|loop (c:MC)|exit (id:Nat)|scp (c:MC)|lab|ret|rng (g:Operand) (ps:List Nat) (A B:MC)|bad
def S (l:List UInt8):Value:=.string ⟨l.toArray⟩
abbrev I (n:Int):Value:=.int .i64 n
abbrev U (n:Int):Value:=.int .u8 n
theorem S_eq (s:ByteArray):Value.string s=S s.data.toList:=rfl
def okB:BinOp→Value→Value→Prop
 | .add,.int k _,.int k' _|.sub,.int k _,.int k' _|.mul,.int k _,.int k' _|.eql,.int k _,.int k' _|.neq,.int k _,.int k' _
 | .lss,.int k _,.int k' _|.leq,.int k _,.int k' _|.gtr,.int k _,.int k' _|.geq,.int k _,.int k' _=>k=k'
 | .quo,.int k _,.int k' b|.rem,.int k _,.int k' b=>k=k'∧b≠0
 | .add,.string a,.string b=>a.size+b.size≤9223372036854775807
 | .eql,.string _,.string _|.neq,.string _,.string _|.lss,.string _,.string _|.leq,.string _,.string _|.gtr,.string _,.string _|.geq,.string _,.string _=>True
 | _,_,_=>False
def valB:BinOp→Value→Value→Value
 | .add,.int k a,.int _ b=>.int k (k.wrap (a+b))
 | .sub,.int k a,.int _ b=>.int k (k.wrap (a - b))
 | .mul,.int k a,.int _ b=>.int k (k.wrap (a * b))
 | .quo,.int k a,.int _ b=>.int k (k.wrap (a.tdiv b))
 | .rem,.int k a,.int _ b=>.int k (a.tmod b)
 | .eql,.int _ a,.int _ b=>.bool (a == b)
 | .neq,.int _ a,.int _ b=>.bool (a != b)
 | .lss,.int _ a,.int _ b=>.bool (decide (a < b))
 | .leq,.int _ a,.int _ b=>.bool (decide (a≤b))
 | .gtr,.int _ a,.int _ b=>.bool (decide (b < a))
 | .geq,.int _ a,.int _ b=>.bool (decide (b≤a))
 | .add,.string a,.string b=>.string (a++b)
 | .eql,.string a,.string b=>.bool (a.toList == b.toList)
 | .neq,.string a,.string b=>.bool (!(a.toList == b.toList))
 | .lss,.string a,.string b=>.bool (Op.bytesLess a.toList b.toList)
 | .leq,.string a,.string b=>.bool (Op.bytesLess a.toList b.toList || a.toList == b.toList)
 | .gtr,.string a,.string b=>.bool (!(Op.bytesLess a.toList b.toList || a.toList == b.toList))
 | .geq,.string a,.string b=>.bool (!(Op.bytesLess a.toList b.toList))
 | _,_,_=>undef
def okU:UnOp→Value→Prop
 | .neg,.int _ _|.not,.bool _=>True
 | _,_=>False
def valU:UnOp→Value→Value
 | .neg,.int k n=>.int k (k.wrap (0 - n))
 | .not,.bool b=>.bool (!b)
 | _,_=>undef
def isB:Value→Prop|.bool _=>True|_=>False
def eqbV (neg:Bool):Value→Value→Value
 | .bool a,.bool b=>.bool (if neg then !(a == b) else a == b)
 | _,_=>undef
def okEqL:List FK→List Value→List Value→Prop
 | [],_,_=>True
 | .i :: ks,.int k _ :: xs,.int k' _ :: ys=>k=k'∧okEqL ks xs ys
 | .s :: ks,.string _ :: xs,.string _ :: ys=>okEqL ks xs ys
 | .b :: ks,.bool _ :: xs,.bool _ :: ys=>okEqL ks xs ys
 | _,_,_=>False
def eqL:List FK→List Value→List Value→Bool
 | .i :: ks,.int _ a :: xs,.int _ b :: ys=>(a == b) && eqL ks xs ys
 | .s :: ks,.string a :: xs,.string b :: ys=>(a.toList == b.toList) && eqL ks xs ys
 | .b :: ks,.bool a :: xs,.bool b :: ys=>(a == b) && eqL ks xs ys
 | _,_,_=>true
def okEqA (ks:List FK):Value→Value→Prop
 | .agg xs,.agg ys=>okEqL ks xs.toList ys.toList
 | _,_=>False
def eqAV (neg:Bool) (ks:List FK):Value→Value→Value
 | .agg xs,.agg ys=>.bool (if neg then !(eqL ks xs.toList ys.toList) else eqL ks xs.toList ys.toList)
 | _,_=>undef
def pickV:Value→Value→Value→Value
 | .bool true,a,_=>a
 | .bool false,_,b=>b
 | _,_,_=>undef
def isI:Value→Prop|.int _ _=>True|_=>False
def cviV (k:IntKind):Value→Value|.int _ n=>.int k (k.wrap n)|_=>undef
def isS:Value→Prop|.string _=>True|_=>False
def isL:Value→Prop|.slice _ _ _=>True|_=>False
def lenV:Value→Value|.string s=>.int .i64 (s.size:Nat)|.slice _ n _=>.int .i64 (n:Nat)|_=>undef
def okIdxS:Value→Value→Prop|.string s,.int _ i=>0≤i∧i < (s.size:Nat)|_,_=>False
def idxSV:Value→Value→Value|.string s,.int _ i=>.int .u8 ((s.data.toList.getD i.toNat 0).toNat:Nat)|_,_=>undef
def okAdr:Value→Value→Prop|.slice (some _) n _,.int _ i=>0≤i∧i < (n:Nat)|_,_=>False
def okAdA (n:Nat):Value→Value→Prop|.pointer (some _),.int _ i=>0≤i∧i < (n:Nat)|_,_=>False
def adAV (sz:Nat):Value→Value→Value|.pointer (some a),.int _ i=>.pointer (some (a.add (i.toNat * sz)))|_,_=>undef
def adrV (sz:Nat):Value→Value→Value|.slice (some a) _ _,.int _ i=>.pointer (some (a.add (i.toNat * sz)))|_,_=>undef
def okLd (w:World):Option Nat→Value→Prop
 | none,.pointer (some a)=>(w.cell? a).isSome=true
 | some n,.pointer (some a)=>∀ j,j < n→(w.cell? (a.add j)).isSome=true
 | _,_=>False
def ldV (w:World):Option Nat→Value→Value
 | none,.pointer (some a)=>(w.cell? a).getD undef
 | some n,.pointer (some a)=>.agg (((List.range n).map fun j=>(w.cell? (a.add j)).getD undef).toArray)
 | _,_=>undef
def okFad:Value→Prop|.pointer (some _)=>True|_=>False
def fadV (off:Nat):Value→Value|.pointer (some a)=>.pointer (some (a.add off))|_=>undef
def okFld (off:Nat):Option Nat→Value→Prop
 | none,.agg cs=>off < cs.size
 | some n,.agg cs=>off+n≤cs.size
 | _,_=>False
def fldV (off:Nat):Option Nat→Value→Value
 | none,.agg cs=>cs.getD off undef
 | some n,.agg cs=>.agg (cs.extract off (off+n))
 | _,_=>undef
def okExt (i:Nat):Value→Prop|.tuple vs=>i < vs.size|_=>False
def extV (i:Nat):Value→Value|.tuple vs=>vs.getD i undef|_=>undef
def loN:Option Value→Int|some (.int _ n)=>n|_=>0
def hiN (d:Nat):Option Value→Int|some (.int _ n)=>n|_=>d
def okI:Option Value→Prop|some (.int _ _)|none=>True|_=>False
def okSlS (lo hi:Option Value):Value→Prop|.string s=>okI lo∧okI hi∧0≤loN lo∧loN lo≤hiN s.size hi∧hiN s.size hi≤(s.size:Nat)|_=>False
def slSV (lo hi:Option Value):Value→Value|.string s=>.string (s.extract (loN lo).toNat (hiN s.size hi).toNat)|_=>undef
def okSlV (lo hi:Option Value):Value→Prop|.slice _ n c=>okI lo∧okI hi∧0≤loN lo∧loN lo≤hiN n hi∧hiN n hi≤(c:Nat)|_=>False
def slVV (sz:Nat) (lo hi:Option Value):Value→Value
 | .slice a n c=>.slice (if c=(loN lo).toNat then a else a.map (·.add ((loN lo).toNat * sz))) ((hiN n hi).toNat - (loN lo).toNat) (c - (loN lo).toNat)
 | _=>undef
def okNck:Value→Prop|.pointer (some _)|.slice _ _ _|.string _=>True|_=>False
def layL:List Value→List (Nat×Nat×Value)→List Value
 | cs,[]=>cs
 | cs,(off,_,v) :: r=>layL (v.cells.toList.zipIdx.foldl (fun c p=>c.set (off+p.2) p.1) cs) r
def okLay (cs:List Value):List (Nat×Nat×Value)→Prop
 | []=>True
 | (off,n,v) :: r=>(v.cells.size=n∧off+n≤cs.length)∧okLay cs r
def okB2s (w:World):Value→Prop
 | .slice (some a) n _=>∀ j,j < n→∃ x,w.cell? (a.add j)=some (.int .u8 x)
 | .slice none _ _=>True
 | _=>False
def byteOfV:Value→UInt8|.int _ n=>UInt8.ofNat n.toNat|_=>0
def b2sV (w:World):Value→Value
 | .slice (some a) n _=>S ((List.range n).map fun j=>byteOfV ((w.cell? (a.add j)).getD undef))
 | .slice none _ _=>S []
 | _=>undef
def okSt (w:World) (n:Nat):Value→Value→Prop
 | .pointer (some a),v=>v.cells.size=n∧(∀ u∈v.cells.toList,u.oneCell'=true)∧∀ j,j < n→(w.cell? (a.add j)).isSome=true∧w.frozen? (a.add j)=false
 | _,_=>False
def stL (w:World) (a:Addr):List Value→Nat→World
 | [],_=>w
 | v :: r,i=>stL (w.setCell (a.add i) v) a r (i+1)
def stW (w:World):Value→Value→World
 | .pointer (some a),v=>stL w a v.cells.toList 0
 | _,_=>w
def evP (ρ:Fr) (ps:List (Nat×Nat×Operand)):List (Nat×Nat×Value):=ps.map fun p=>(p.1,p.2.1,ev ρ p.2.2)
def okM (ρ:Fr) (w:World):MO→Prop
 | .mv _=>True
 | .pick c _ _=>isB (ev ρ c)
 | .bin op x y=>okB op (ev ρ x) (ev ρ y)
 | .eqb _ x y=>isB (ev ρ x)∧isB (ev ρ y)
 | .eqA _ ks x y=>okEqA ks (ev ρ x) (ev ρ y)
 | .un op x=>okU op (ev ρ x)
 | .cvi _ x=>isI (ev ρ x)
 | .cvs x=>isS (ev ρ x)
 | .b2s x=>okB2s w (ev ρ x)
 | .len x=>isL (ev ρ x)
 | .lenS x=>isS (ev ρ x)
 | .idxS x i=>okIdxS (ev ρ x) (ev ρ i)
 | .adr _ x i=>okAdr (ev ρ x) (ev ρ i)
 | .adA n _ x i=>okAdA n (ev ρ x) (ev ρ i)
 | .ld n x=>okLd w n (ev ρ x)
 | .st n x y=>okSt w n (ev ρ x) (ev ρ y)
 | .fad _ x=>okFad (ev ρ x)
 | .fld off n x=>okFld off n (ev ρ x)
 | .ext i x=>okExt i (ev ρ x)
 | .slS x lo hi=>okSlS (lo.map (ev ρ)) (hi.map (ev ρ)) (ev ρ x)
 | .slV _ x lo hi=>okSlV (lo.map (ev ρ)) (hi.map (ev ρ)) (ev ρ x)
 | .alc _ _=>True
 | .nck x=>okNck (ev ρ x)
 | .bld zs ps=>okLay zs (evP ρ ps)
 | .bsl _ zs _ ps=>okLay zs (evP ρ ps)
 | .call _ _|.raw _ _=>False
def vM (ρ:Fr) (w:World):MO→Value
 | .mv x=>ev ρ x
 | .pick c a b=>pickV (ev ρ c) (ev ρ a) (ev ρ b)
 | .bin op x y=>valB op (ev ρ x) (ev ρ y)
 | .eqb neg x y=>eqbV neg (ev ρ x) (ev ρ y)
 | .eqA neg ks x y=>eqAV neg ks (ev ρ x) (ev ρ y)
 | .un op x=>valU op (ev ρ x)
 | .cvi k x=>cviV k (ev ρ x)
 | .cvs x=>ev ρ x
 | .b2s x=>b2sV w (ev ρ x)
 | .len x=>lenV (ev ρ x)
 | .lenS x=>lenV (ev ρ x)
 | .idxS x i=>idxSV (ev ρ x) (ev ρ i)
 | .adr sz x i=>adrV sz (ev ρ x) (ev ρ i)
 | .adA _ sz x i=>adAV sz (ev ρ x) (ev ρ i)
 | .ld n x=>ldV w n (ev ρ x)
 | .st _ _ _=>undef
 | .fad off x=>fadV off (ev ρ x)
 | .fld off n x=>fldV off n (ev ρ x)
 | .ext i x=>extV i (ev ρ x)
 | .slS x lo hi=>slSV (lo.map (ev ρ)) (hi.map (ev ρ)) (ev ρ x)
 | .slV sz x lo hi=>slVV sz (lo.map (ev ρ)) (hi.map (ev ρ)) (ev ρ x)
 | .alc _ _=>.pointer (some ⟨w.heap.size,0,none⟩)
 | .nck x=>ev ρ x
 | .bld zs ps=>.agg (layL zs (evP ρ ps)).toArray
 | .bsl _ _ n _=>.slice (some ⟨w.heap.size,0,none⟩) n n
 | .call _ _|.raw _ _=>undef
def wM (ρ:Fr) (w:World):MO→World
 | .st _ x y=>stW w (ev ρ x) (ev ρ y)
 | .alc t cs=>w.alloc (.cells cs.toArray t)
 | .bsl t zs _ ps=>w.alloc (.cells (layL zs (evP ρ ps)).toArray t)
 | _=>w
def wantF (v:Value) (b:Bool):Bool:=match v with|.bool c=>c == b|_=>false
def gF (ρ:Fr):Option (Nat×Bool)→Bool
 | none=>true
 | some (s,b)=>wantF (ρ s) b
def CallK (P:Program) (f:Nat) (args:List Value) (w:World) (d:Option Nat) (ρ:Fr) (next:Fr→World→Prop):Prop:=Ret P f args.toArray w fun v w'=>next (updO ρ d v) w'
abbrev opr (op:Op) (ty:TypeId):Oper:=⟨none,op,ty,default,#[],none⟩
def RawK (P:Program) (op:Op) (ty:TypeId) (d:Option Nat) (ρ:Fr) (w:World) (next:Fr→World→Prop):Prop :=
 (∃ v w',(execOp (ev ρ) (opr op ty)).run P w=.ok (.value v) w'∧next (updO ρ d v) w')∨(∃ w',(execOp (ev ρ) (opr op ty)).run P w=.ok .skip w'∧next (updO ρ d undef) w') ∨
 ∃ f args w',(execOp (ev ρ) (opr op ty)).run P w=.ok (.enter f args) w'∧Ret P f args w' fun v w''=>next (updO ρ d v) w''
def OS (P:Program) (d:Option Nat) (m:MO) (ρ:Fr) (w:World) (next:Fr→World→Prop):Prop :=
 match m with
 | .call f args=>CallK P f (args.map (ev ρ)) w d ρ next
 | .raw op ty=>RawK P op ty d ρ w next
 | m=>okM ρ w m∧next (updO ρ d (vM ρ w m)) (wM ρ w m)
def O (P:Program) (K:Fr→World→Prop):List ML→Fr→World→Prop
 | [],ρ,w=>K ρ w
 | ⟨g,d,m⟩ :: rest,ρ,w=>if gF ρ g=true then OS P d m ρ w (O P K rest) else O P K rest (updO ρ d undef) w
section
variable {P:Program} {K:Fr→World→Prop} {rest:List ML} {ρ:Fr} {w:World} {d:Option Nat}
theorem O_nil:O P K [] ρ w=K ρ w:=rfl
theorem O_g (s:Nat) (b:Bool) (m:MO):O P K (⟨some (s,b),d,m⟩ :: rest) ρ w=if wantF (ρ s) b=true then O P K (⟨none,d,m⟩ :: rest) ρ w else O P K rest (updO ρ d undef) w:=by
 by_cases h:wantF (ρ s) b=true<;>simp [O,gF,h]
theorem O_call (f:Nat) (args:List Operand):O P K (⟨none,d,.call f args⟩ :: rest) ρ w=CallK P f (args.map (ev ρ)) w d ρ (O P K rest):=by simp [O,gF,OS]
theorem O_raw (op:Op) (ty:TypeId):O P K (⟨none,d,.raw op ty⟩ :: rest) ρ w=RawK P op ty d ρ w (O P K rest):=by simp [O,gF,OS]
theorem O_mv (x:Operand):O P K (⟨none,d,.mv x⟩ :: rest) ρ w=O P K rest (updO ρ d (ev ρ x)) w:=by simp [O,gF,OS,okM,vM,wM]
theorem O_pick (c a b:Operand):O P K (⟨none,d,.pick c a b⟩ :: rest) ρ w=(isB (ev ρ c)∧O P K rest (updO ρ d (pickV (ev ρ c) (ev ρ a) (ev ρ b))) w):=by simp [O,gF,OS,okM,vM,wM]
theorem O_bin (op:BinOp) (x y:Operand):O P K (⟨none,d,.bin op x y⟩ :: rest) ρ w=(okB op (ev ρ x) (ev ρ y)∧O P K rest (updO ρ d (valB op (ev ρ x) (ev ρ y))) w):=by simp [O,gF,OS,okM,vM,wM]
theorem O_eqb (neg:Bool) (x y:Operand):O P K (⟨none,d,.eqb neg x y⟩ :: rest) ρ w=((isB (ev ρ x)∧isB (ev ρ y))∧O P K rest (updO ρ d (eqbV neg (ev ρ x) (ev ρ y))) w):=by simp [O,gF,OS,okM,vM,wM]
theorem O_eqA (neg:Bool) (ks:List FK) (x y:Operand):O P K (⟨none,d,.eqA neg ks x y⟩ :: rest) ρ w=(okEqA ks (ev ρ x) (ev ρ y)∧O P K rest (updO ρ d (eqAV neg ks (ev ρ x) (ev ρ y))) w):=by simp [O,gF,OS,okM,vM,wM]
theorem O_un (op:UnOp) (x:Operand):O P K (⟨none,d,.un op x⟩ :: rest) ρ w=(okU op (ev ρ x)∧O P K rest (updO ρ d (valU op (ev ρ x))) w):=by simp [O,gF,OS,okM,vM,wM]
theorem O_cvi (k:IntKind) (x:Operand):O P K (⟨none,d,.cvi k x⟩ :: rest) ρ w=(isI (ev ρ x)∧O P K rest (updO ρ d (cviV k (ev ρ x))) w):=by simp [O,gF,OS,okM,vM,wM]
theorem O_cvs (x:Operand):O P K (⟨none,d,.cvs x⟩ :: rest) ρ w=(isS (ev ρ x)∧O P K rest (updO ρ d (ev ρ x)) w):=by simp [O,gF,OS,okM,vM,wM]
theorem O_b2s (x:Operand):O P K (⟨none,d,.b2s x⟩ :: rest) ρ w=(okB2s w (ev ρ x)∧O P K rest (updO ρ d (b2sV w (ev ρ x))) w):=by simp [O,gF,OS,okM,vM,wM]
theorem O_len (x:Operand):O P K (⟨none,d,.len x⟩ :: rest) ρ w=(isL (ev ρ x)∧O P K rest (updO ρ d (lenV (ev ρ x))) w):=by simp [O,gF,OS,okM,vM,wM]
theorem O_lenS (x:Operand):O P K (⟨none,d,.lenS x⟩ :: rest) ρ w=(isS (ev ρ x)∧O P K rest (updO ρ d (lenV (ev ρ x))) w):=by simp [O,gF,OS,okM,vM,wM]
theorem O_idxS (x i:Operand):O P K (⟨none,d,.idxS x i⟩ :: rest) ρ w=(okIdxS (ev ρ x) (ev ρ i)∧O P K rest (updO ρ d (idxSV (ev ρ x) (ev ρ i))) w):=by simp [O,gF,OS,okM,vM,wM]
theorem O_adA (n sz:Nat) (x i:Operand):O P K (⟨none,d,.adA n sz x i⟩ :: rest) ρ w=(okAdA n (ev ρ x) (ev ρ i)∧O P K rest (updO ρ d (adAV sz (ev ρ x) (ev ρ i))) w):=by simp [O,gF,OS,okM,vM,wM]
theorem O_adr (sz:Nat) (x i:Operand):O P K (⟨none,d,.adr sz x i⟩ :: rest) ρ w=(okAdr (ev ρ x) (ev ρ i)∧O P K rest (updO ρ d (adrV sz (ev ρ x) (ev ρ i))) w):=by simp [O,gF,OS,okM,vM,wM]
theorem O_ld (n:Option Nat) (x:Operand):O P K (⟨none,d,.ld n x⟩ :: rest) ρ w=(okLd w n (ev ρ x)∧O P K rest (updO ρ d (ldV w n (ev ρ x))) w):=by simp [O,gF,OS,okM,vM,wM]
theorem O_st (n:Nat) (x y:Operand):O P K (⟨none,d,.st n x y⟩ :: rest) ρ w=(okSt w n (ev ρ x) (ev ρ y)∧O P K rest (updO ρ d undef) (stW w (ev ρ x) (ev ρ y))):=by simp [O,gF,OS,okM,vM,wM]
theorem O_fad (off:Nat) (x:Operand):O P K (⟨none,d,.fad off x⟩ :: rest) ρ w=(okFad (ev ρ x)∧O P K rest (updO ρ d (fadV off (ev ρ x))) w):=by simp [O,gF,OS,okM,vM,wM]
theorem O_fld (off:Nat) (n:Option Nat) (x:Operand):O P K (⟨none,d,.fld off n x⟩ :: rest) ρ w=(okFld off n (ev ρ x)∧O P K rest (updO ρ d (fldV off n (ev ρ x))) w):=by simp [O,gF,OS,okM,vM,wM]
theorem O_ext (i:Nat) (x:Operand):O P K (⟨none,d,.ext i x⟩ :: rest) ρ w=(okExt i (ev ρ x)∧O P K rest (updO ρ d (extV i (ev ρ x))) w):=by simp [O,gF,OS,okM,vM,wM]
theorem O_slS (x:Operand) (lo hi:Option Operand):O P K (⟨none,d,.slS x lo hi⟩ :: rest) ρ w=(okSlS (lo.map (ev ρ)) (hi.map (ev ρ)) (ev ρ x)∧O P K rest (updO ρ d (slSV (lo.map (ev ρ)) (hi.map (ev ρ)) (ev ρ x))) w):=by simp [O,gF,OS,okM,vM,wM]
theorem O_slV (sz:Nat) (x:Operand) (lo hi:Option Operand):O P K (⟨none,d,.slV sz x lo hi⟩ :: rest) ρ w=(okSlV (lo.map (ev ρ)) (hi.map (ev ρ)) (ev ρ x)∧O P K rest (updO ρ d (slVV sz (lo.map (ev ρ)) (hi.map (ev ρ)) (ev ρ x))) w):=by simp [O,gF,OS,okM,vM,wM]
theorem O_alc (t:TypeId) (cs:List Value):O P K (⟨none,d,.alc t cs⟩ :: rest) ρ w=O P K rest (updO ρ d (.pointer (some ⟨w.heap.size,0,none⟩))) (w.alloc (.cells cs.toArray t)):=by simp [O,gF,OS,okM,vM,wM]
theorem O_nck (x:Operand):O P K (⟨none,d,.nck x⟩ :: rest) ρ w=(okNck (ev ρ x)∧O P K rest (updO ρ d (ev ρ x)) w):=by simp [O,gF,OS,okM,vM,wM]
theorem O_bld (zs:List Value) (ps:List (Nat×Nat×Operand)):O P K (⟨none,d,.bld zs ps⟩ :: rest) ρ w=(okLay zs (evP ρ ps)∧O P K rest (updO ρ d (.agg (layL zs (evP ρ ps)).toArray)) w):=by simp [O,gF,OS,okM,vM,wM]
theorem O_bsl (t:TypeId) (zs:List Value) (n:Nat) (ps:List (Nat×Nat×Operand)):O P K (⟨none,d,.bsl t zs n ps⟩ :: rest) ρ w =
 (okLay zs (evP ρ ps)∧O P K rest (updO ρ d (.slice (some ⟨w.heap.size,0,none⟩) n n)) (w.alloc (.cells (layL zs (evP ρ ps)).toArray t))):=by simp [O,gF,OS,okM,vM,wM]
end
def aggN (P:Program) (t:TypeId):Option (Option Nat) :=
 match P.info? t,P.underlying t with
 | some i,some (.struct _)=>some (some i.size)
 | some i,some (.array _ _)=>some (some i.size)
 | some _,some _=>some none
 | _,_=>none
def isInt (P:Program) (t:TypeId):Bool:=match P.underlying t with|some (.int _)=>true|_=>false
def isStr (P:Program) (t:TypeId):Bool:=match P.underlying t with|some .string=>true|_=>false
def isBool (P:Program) (t:TypeId):Bool:=match P.underlying t with|some .bool=>true|_=>false
def arrOf (P:Program) (t:TypeId):Option (Nat×TypeId):=match P.underlying t with|some (.array n e)=>some (n,e)|_=>none
def elemOf (P:Program) (t:TypeId):Option TypeId:=match P.underlying t with|some (.slice e)=>some e|_=>none
def plainOp:BinOp→Bool|.add|.sub|.mul|.quo|.rem|.lss|.leq|.gtr|.geq=>true|_=>false
def eqOp:BinOp→Bool|.eql|.neq=>true|_=>false
def isNeq:BinOp→Bool|.neq=>true|_=>false
def ownFn (P : Program) (f : Nat) : Bool := match P.funcs[f]? with | some fn => fn.body.isSome && !(fn.name == "runtime.NumGoroutine") | none => false
def cmCall (P:Program) (c:Call) (o:Oper):MO :=
 match c.callee with
 | .builtin .len=>(match c.args.toList,c.argTypes.toList with
   | [x],[t]=>if isStr P t then .lenS x else if (elemOf P t).isSome then .len x else .raw o.op o.type
   | _,_=>.raw o.op o.type)
 | .value (.func f)=>if ownFn P f then .call f c.args.toList else .raw o.op o.type
 | _=>.raw o.op o.type
def cmSlice (P:Program) (t:TypeId) (x:Operand) (lo hi mx:Option Operand) (o:Oper):MO :=
 match mx with
 | none=>if isStr P t then .slS x lo hi else (match elemOf P t with|some e=>(match P.info? e with|some j=>.slV j.size x lo hi|none=>.raw o.op o.type)|none=>.raw o.op o.type)
 | some _=>.raw o.op o.type
def fkOf (P:Program) (t:TypeId):Option FK:=match P.info? t,P.underlying t with
 | some _,some (.int _)=>some .i
 | some _,some .string=>some .s
 | some _,some .bool=>some .b
 | _,_=>none
def flatFs (P:Program):Nat→List Field→Option (List FK)
 | _,[]=>some []
 | j, f :: fs => if f.offset = j ∧ f.name ≠ "_" then (match fkOf P f.type, flatFs P (j + 1) fs with | some k, some ks => some (k :: ks) | _, _ => none) else none
def cmEqA (P:Program) (t:TypeId) (neg:Bool) (x y:Operand) (o:Oper):MO :=
 match P.underlying t with
 | some (.struct fs)=>if P.stoodInHeld t || P.eqGuardType P.depth t then .raw o.op o.type else (match flatFs P 0 fs.toList with|some ks=>.eqA neg ks x y|none=>.raw o.op o.type)
 | _=>.raw o.op o.type
def fieldOf (P:Program) (s:TypeId) (f:Nat):Option Field:=match P.underlying s with|some (.struct fs)=>fs[f]?|_=>none
def cmFad (P:Program) (s:TypeId) (x:Operand) (f:Nat) (o:Oper):MO :=
 match fieldOf P s f with
 | some fd=>(match P.info? fd.type with|some i=>if i.size=0 then .raw o.op o.type else .fad fd.offset x|none=>.raw o.op o.type)
 | none=>.raw o.op o.type
def cmFld (P:Program) (s:TypeId) (x:Operand) (f:Nat) (o:Oper):MO :=
 match fieldOf P s f with
 | some fd=>(match aggN P fd.type with|some k=>.fld fd.offset k x|none=>.raw o.op o.type)
 | none=>.raw o.op o.type
def places (P:Program) (t:TypeId):Option (Nat→Option (Nat×Nat)) :=
 match P.underlying t with
 | some (.struct fs)=>if fs.toList.all (fun f=>(P.info? f.type).isSome) then some fun i=>(fs[i]?).map fun f=>(f.offset,P.cellsOf f.type) else none
 | some (.array _ e)=>if (P.info? e).isSome then some fun i=>some (i * P.cellsOf e,P.cellsOf e) else none
 | _=>none
def partsAt (pl:Nat→Option (Nat×Nat)):List (Nat×Operand)→Option (List (Nat×Nat×Operand))
 | []=>some []
 | (i,x) :: r=>match pl i,partsAt pl r with|some (off,n),some l=>some ((off,n,x) :: l)|_,_=>none
def cmBld (P:Program) (t:TypeId) (ps:List (Nat×Operand)) (o:Oper):MO :=
 match (P.info? t).bind (·.zero),places P t with
 | some z,some pl=>(match partsAt pl ps with|some l=>.bld z.cells.toList l|none=>.raw o.op o.type)
 | _,_=>.raw o.op o.type
def zerosOf (P:Program) (e:TypeId) (k:Nat):Option (List Value) :=
 if k=0 then some [] else ((P.info? e).bind (·.zero)).map fun z=>((Array.range k).map fun i=>z.cells[i % z.cells.size]!).toList
def cmBsl (P:Program) (t:TypeId) (n:Nat) (ps:List (Nat×Operand)) (o:Oper):MO :=
 match elemOf P t with
 | some e=>(match P.info? e,zerosOf P e (n * P.cellsOf e),partsAt (fun i=>some (i * P.cellsOf e,P.cellsOf e)) ps with
   | some _,some zs,some l=>if n * P.cellsOf e≤2 ^ 24 then .bsl e zs n l else .raw o.op o.type
   | _,_,_=>.raw o.op o.type)
 | none=>.raw o.op o.type
def cmA (P:Program) (o:Oper) (p:Op):MO :=
 match p with
 | .move x=>.mv x
 | .assign x=>.mv x
 | .pick c a b=>.pick c a b
 | .binOp op t x y _=>if plainOp op || (eqOp op && (isInt P t || isStr P t)) then .bin op x y else if eqOp op && isBool P t then .eqb (isNeq op) x y else if eqOp op then cmEqA P t (isNeq op) x y o else .raw o.op o.type
 | .unOp op _ x=>.un op x
 | .convert s t x=>match P.underlying s,P.underlying t with
   | some (.int _),some (.int k)=>.cvi k x
   | some .string,some .string=>.cvs x
   | some (.slice e),some .string=>(match P.underlying e with|some (.int .u8)=>.b2s x|_=>.raw o.op o.type)
   | _,_=>.raw o.op o.type
 | .load t x=>match aggN P t with|some n=>.ld n x|none=>.raw o.op o.type
 | .store t x y=>match P.info? t with|some i=>.st i.size x y|none=>.raw o.op o.type
 | .index t x i=>if isStr P t then .idxS x i else .raw o.op o.type
 | .indexAddr t x i=>match elemOf P t with|some e=>(match P.info? e with|some j=>.adr j.size x i|none=>.raw o.op o.type)|none=>(match arrOf P t with|some ne=>(match P.info? ne.2 with|some j=>.adA ne.1 j.size x i|none=>.raw o.op o.type)|none=>.raw o.op o.type)
 | .extract x i=>.ext i x
 | .call c=>cmCall P c o
 | .slice t x lo hi mx=>cmSlice P t x lo hi mx o
 | .alloc t=>match (P.info? t).bind (·.zero) with|some z=>.alc t z.cells.toList|none=>.raw o.op o.type
 | .nilCheck x=>.nck x
 | .fieldAddr s x f=>cmFad P s x f o
 | .field s x f=>cmFld P s x f o
 | .build t ps=>cmBld P t ps.toList o
 | .buildSlice t n ps=>cmBsl P t n ps.toList o
 | _=>.raw o.op o.type
def cm (P:Program) (o:Oper):MO:=cmA P o o.op
section
variable {P:Program} {ρ:Fr} {w:World}
theorem run_pick (o:Oper) (c a b:Operand) (ho:o.op=.pick c a b) (h:isB (ev ρ c)):(execOp (ev ρ) o).run P w=.ok (.value (pickV (ev ρ c) (ev ρ a) (ev ρ b))) w:=by
 unfold execOp
 simp only [ho]
 generalize ev ρ c=v at *
 cases v<;>simp [isB] at h
 rename_i t
 cases t<;>simp [asBool,pickV]
theorem run_bin (o:Oper) (op:BinOp) (t t':TypeId) (x y:Operand) (ho:o.op=.binOp op t x y t') (hop:plainOp op || eqOp op) (h:okB op (ev ρ x) (ev ρ y)) :
 (execOp (ev ρ) o).run P w=.ok (.value (valB op (ev ρ x) (ev ρ y))) w:=by
 unfold execOp
 simp only [ho]
 generalize ev ρ x=a at *
 generalize ev ρ y=b at *
 cases op<;>simp [plainOp,eqOp] at hop<;>(cases a<;>try (simp [okB] at h;done))<;>(cases b<;>try (simp [okB] at h;done))<;>simp only [okB] at h
 all_goals first
  | (subst h;simp [eqGuard,binOp,Op.intArith,Op.intCmp,valB];done)
  | (obtain ⟨rfl,h⟩:=h;simp [eqGuard,binOp,Op.intDiv,valB,h];done)
  | (simp [eqGuard,binOp,Op.stringOp,valB,IntKind.max,IntKind.bits,IntKind.signed];done)
  | (simp [eqGuard,binOp,Op.stringOp,valB,IntKind.max,IntKind.bits,IntKind.signed];omega)
theorem run_eqb (o:Oper) (op:BinOp) (t t':TypeId) (x y:Operand) (ho:o.op=.binOp op t x y t') (hop:eqOp op) (ht:isBool P t) (hx:isB (ev ρ x)) (hy:isB (ev ρ y)) :
 (execOp (ev ρ) o).run P w=.ok (.value (eqbV (isNeq op) (ev ρ x) (ev ρ y))) w:=by
 unfold execOp
 simp only [ho]
 generalize ev ρ x=a at *
 generalize ev ρ y=b at *
 cases a<;>simp [isB] at hx
 cases b<;>simp [isB] at hy
 unfold isBool at ht
 split at ht
 ·rename_i hu
  have e0:∀ (d:Nat) (a b:Bool),(Op.equalIn (d+1) t (.bool a) (.bool b)).run P w=.ok (a == b) w:=fun d a b=>by
   simp [Op.equalIn,run_underlying hu]
  have e:∀ a b:Bool,(Op.equal t (.bool a) (.bool b)).run P w=.ok (a == b) w:=fun a b=>by
   simp [Op.equal,Op.maxDepth,e0 9999]
  cases op<;>simp [eqOp] at hop
  ·simp [eqGuard,binOp,eqbV,e,isNeq]
  ·simp [eqGuard,binOp,eqbV,e,isNeq]
 ·simp at ht
theorem run_un (o:Oper) (op:UnOp) (t:TypeId) (x:Operand) (ho:o.op=.unOp op t x) (h:okU op (ev ρ x)):(execOp (ev ρ) o).run P w=.ok (.value (valU op (ev ρ x))) w:=by
 unfold execOp
 simp only [ho]
 generalize ev ρ x=a at *
 cases op<;>cases a<;>simp [okU] at h<;>simp [Op.unary,valU,Op.intArith]
theorem run_cvi (o:Oper) (s t:TypeId) (j k:IntKind) (x:Operand) (ho:o.op=.convert s t x) (hs:P.underlying s=some (.int j)) (ht:P.underlying t=some (.int k)) (h:isI (ev ρ x)) :
 (execOp (ev ρ) o).run P w=.ok (.value (cviV k (ev ρ x))) w:=by
 unfold execOp
 simp only [ho]
 generalize ev ρ x=a at *
 cases a<;>simp [isI] at h
 simp [convert,run_underlying hs,run_underlying ht,Conv.intToInt,cviV]
theorem run_cvs (o:Oper) (s t:TypeId) (x:Operand) (ho:o.op=.convert s t x) (hs:P.underlying s=some .string) (ht:P.underlying t=some .string) (h:isS (ev ρ x)) :
 (execOp (ev ρ) o).run P w=.ok (.value (ev ρ x)) w:=by
 unfold execOp
 simp only [ho]
 generalize ev ρ x=a at *
 cases a<;>simp [isS] at h
 simp [convert,run_underlying hs,run_underlying ht]
theorem isStr_of {t:TypeId} (h:isStr P t=true):P.underlying t=some .string:=by
 unfold isStr at h
 split at h
 ·assumption
 ·simp at h
theorem elemOf_of {t e:TypeId} (h:elemOf P t=some e):P.underlying t=some (.slice e):=by
 unfold elemOf at h
 split at h
 ·injection h with h;subst h;assumption
 ·simp at h
theorem run_lenS (o:Oper) (t:TypeId) (x:Operand) (ho:o.op=.call { callee:=.builtin .len,args:=#[x],argTypes:=#[t] }) (ht:isStr P t=true) (h:isS (ev ρ x)) :
 (execOp (ev ρ) o).run P w=.ok (.value (lenV (ev ρ x))) w:=by
 unfold execOp
 simp only [ho]
 generalize hv:ev ρ x=a at *
 cases a<;>simp [isS] at h
 simp [resolve,invoke,builtin,Builtin.len_,run_underlying (isStr_of ht),hv,lenV,goInt]
theorem run_lenL (o:Oper) (t e:TypeId) (x:Operand) (ho:o.op=.call { callee:=.builtin .len,args:=#[x],argTypes:=#[t] }) (ht:elemOf P t=some e) (h:isL (ev ρ x)) :
 (execOp (ev ρ) o).run P w=.ok (.value (lenV (ev ρ x))) w:=by
 unfold execOp
 simp only [ho]
 generalize hv:ev ρ x=a at *
 cases a<;>simp [isL] at h
 simp [resolve,invoke,builtin,Builtin.len_,run_underlying (elemOf_of ht),hv,lenV,goInt]
theorem run_idxS (o:Oper) (t:TypeId) (x i:Operand) (ho:o.op=.index t x i) (ht:isStr P t=true) (h:okIdxS (ev ρ x) (ev ρ i)) :
 (execOp (ev ρ) o).run P w=.ok (.value (idxSV (ev ρ x) (ev ρ i))) w:=by
 unfold execOp
 simp only [ho]
 generalize ev ρ x=a at *
 generalize ev ρ i=b at *
 cases a<;>try (simp [okIdxS] at h;done)
 cases b<;>simp [okIdxS] at h
 rename_i s k n
 have hlt:n.toNat < s.size:=by omega
 simp only [Sem.run_bind,run_index_string w t s k n (isStr_of ht),h,and_self,dite_true]
 have:s.data.toList[n.toNat]?.getD 0=s[n.toNat]:=by
  have h2:n.toNat < s.data.toList.length:=by simpa using hlt
  rw [List.getElem?_eq_getElem h2];rfl
 simp only [idxSV,List.getD_eq_getElem?_getD,this,Sem.run_pure,Result.andThen_ok]
theorem run_adr (o:Oper) (t e:TypeId) (j:TypeInfo) (x i:Operand) (ho:o.op=.indexAddr t x i) (ht:elemOf P t=some e) (hj:P.info? e=some j) (h:okAdr (ev ρ x) (ev ρ i)) :
 (execOp (ev ρ) o).run P w=.ok (.value (adrV j.size (ev ρ x) (ev ρ i))) w:=by
 unfold execOp
 simp only [ho]
 generalize ev ρ x=a at *
 generalize ev ρ i=b at *
 cases a<;>try (simp [okAdr] at h;done)
 rename_i a n c
 cases a<;>try (simp [okAdr] at h;done)
 cases b<;>simp [okAdr] at h
 simp [Instr.indexAt,asIntOf,run_underlying (elemOf_of ht),h,sizeOf,typeInfo,hj,adrV]
theorem arrOf_of {t:TypeId} {ne:Nat×TypeId} (h:arrOf P t=some ne):P.underlying t=some (.array ne.1 ne.2):=by
 unfold arrOf at h
 split at h
 ·rename_i hu;injection h with h;subst h;exact hu
 ·simp at h
theorem run_adA (o:Oper) (t:TypeId) (ne:Nat×TypeId) (j:TypeInfo) (x i:Operand) (ho:o.op=.indexAddr t x i) (ht:arrOf P t=some ne) (hj:P.info? ne.2=some j) (h:okAdA ne.1 (ev ρ x) (ev ρ i)) :
 (execOp (ev ρ) o).run P w=.ok (.value (adAV j.size (ev ρ x) (ev ρ i))) w:=by
 unfold execOp
 simp only [ho]
 generalize ev ρ x=a at *
 generalize ev ρ i=b at *
 cases a<;>try (simp [okAdA] at h;done)
 rename_i a
 cases a<;>try (simp [okAdA] at h;done)
 cases b<;>simp [okAdA] at h
 simp [Instr.indexAt,asIntOf,run_underlying (arrOf_of ht),Instr.sureAddr,h,sizeOf,typeInfo,hj,adAV]
theorem run_ext (o:Oper) (i:Nat) (x:Operand) (ho:o.op=.extract x i) (h:okExt i (ev ρ x)):(execOp (ev ρ) o).run P w=.ok (.value (extV i (ev ρ x))) w:=by
 unfold execOp
 simp only [ho]
 generalize ev ρ x=a at *
 cases a<;>simp [okExt] at h
 simp [Instr.extract,extV,h]
theorem run_nck (o:Oper) (x:Operand) (ho:o.op=.nilCheck x) (h:okNck (ev ρ x)):(execOp (ev ρ) o).run P w=.ok (.value (ev ρ x)) w:=by
 unfold execOp
 simp only [ho]
 generalize ev ρ x=a at *
 cases a<;>try (simp [okNck] at h;done)
 all_goals try simp
 rename_i a
 cases a<;>simp [okNck] at h
 simp
theorem run_alc (o:Oper) (t:TypeId) (z:Value) (ho:o.op=.alloc t) (hz:(P.info? t).bind (·.zero)=some z) :
 (execOp (ev ρ) o).run P w=.ok (.value (.pointer (some ⟨w.heap.size,0,none⟩))) (w.alloc (.cells z.cells.toList.toArray t)):=by
 unfold execOp
 simp only [ho]
 cases hi:P.info? t with
 | none=>simp [hi] at hz
 | some i =>
   simp [hi] at hz
   simp [Instr.alloc,zeroValue,typeInfo,hi,hz,newVar,newRow]
theorem run_ld1 (o:Oper) (t:TypeId) (x:Operand) (ho:o.op=.load t x) (ht:aggN P t=some none) (h:okLd w none (ev ρ x)):(execOp (ev ρ) o).run P w=.ok (.value (ldV w none (ev ρ x))) w:=by
 unfold execOp
 simp only [ho]
 generalize ev ρ x=a at *
 cases a<;>try (simp [okLd] at h;done)
 rename_i a
 cases a<;>simp [okLd] at h
 rename_i a
 obtain ⟨v,hv⟩:=Option.isSome_iff_exists.1 h
 unfold aggN at ht
 have:(isAgg t).run P w=.ok false w:=by
  cases hu:P.underlying t with
  | none=>simp [hu] at ht
  | some d=>cases hi:P.info? t<;>cases d<;>simp [hu,hi] at ht<;>simp [isAgg,run_underlying hu]
 simp [Instr.loadAt,Instr.sureAddr,loadVar,this,hv,ldV]
theorem run_ldN (o:Oper) (t:TypeId) (n:Nat) (x:Operand) (ho:o.op=.load t x) (ht:aggN P t=some (some n)) (h:okLd w (some n) (ev ρ x)):(execOp (ev ρ) o).run P w=.ok (.value (ldV w (some n) (ev ρ x))) w:=by
 unfold execOp
 simp only [ho]
 generalize ev ρ x=a at *
 cases a<;>try (simp [okLd] at h;done)
 rename_i a
 cases a<;>simp only [okLd] at h
 rename_i a
 have hl:(loadCells a n).run P w=.ok ((List.range n).map fun j=>(w.cell? (a.add j)).getD undef).toArray w:=by
  refine run_loadCells w a n (fun j=>(w.cell? (a.add j)).getD undef) fun j hj=>?_
  obtain ⟨v,hv⟩:=Option.isSome_iff_exists.1 (h j hj)
  rw [hv];rfl
 unfold aggN at ht
 split at ht<;>simp at ht
 all_goals
  rename_i i _ hi hd
  have ha:(isAgg t).run P w=.ok true w:=by simp [isAgg,run_underlying hd]
  subst ht
  simp [Instr.loadAt,Instr.sureAddr,loadVar,ha,sizeOf,typeInfo,hi,hl,ldV]
theorem run_storeCells (a:Addr):∀ (l:List Value) (i:Nat) (w:World),(∀ v∈l,v.oneCell'=true)→(∀ j,j < l.length→(w.cell? (a.add (i+j))).isSome=true∧w.frozen? (a.add (i+j))=false) →
 (storeCells a l i).run P w=.ok () (stL w a l i):=by
 intro l
 induction l with
 | nil=>intro i w _ _;simp [storeCells,stL]
 | cons v l ih =>
   intro i w h1 h2
   obtain ⟨hc,hf⟩:=h2 0 ze
   simp only [Nat.add_zero] at hc hf
   obtain ⟨u,hu⟩:=Option.isSome_iff_exists.1 hc
   simp only [storeCells,stL,Sem.run_bind,run_store P w (a.add i) v .plain (h1 v ze),hu,hf]
   simp only [Bool.false_eq_true,if_false,Result.andThen_ok]
   refine ih (i+1) _ (fun v hv=>h1 v (by simp [hv])) fun j hj=>?_
   obtain ⟨hc',hf'⟩:=h2 (j+1) (by simp;omega)
   rw [show i+(j+1)=i+1+j from by omega] at hc' hf'
   obtain ⟨u',hu'⟩:=Option.isSome_iff_exists.1 hc'
   obtain ⟨x,hx⟩:=cell?_setCell_some (w:=w) (p:=a.add i) (x:=v) (q:=a.add (i+1+j)) (v:=u') hu'
   exact ⟨by rw [hx];rfl,by rw [World.frozen?_setCell];exact hf'⟩
theorem run_st (o:Oper) (t:TypeId) (i:TypeInfo) (x y:Operand) (ho:o.op=.store t x y) (hi:P.info? t=some i) (h:okSt w i.size (ev ρ x) (ev ρ y)) :
 (execOp (ev ρ) o).run P w=.ok .skip (stW w (ev ρ x) (ev ρ y)):=by
 unfold execOp
 simp only [ho]
 generalize ev ρ x=a at *
 generalize ev ρ y=v at *
 cases a<;>try (simp [okSt] at h;done)
 rename_i a
 cases a<;>simp only [okSt] at h
 rename_i a
 obtain ⟨hsz,h1,hc⟩:=h
 have hs:=run_storeCells (P:=P) a v.cells.toList 0 w h1 (fun j hj=>by simpa using hc j (by simpa [hsz] using hj))
 simp [Instr.storeAt,Instr.sureAddr,storeVar,sizeOf,typeInfo,hi,hsz,hs,stW]
theorem run_slS (o:Oper) (t:TypeId) (x:Operand) (lo hi:Option Operand) (ho:o.op=.slice t x lo hi none) (ht:isStr P t=true) (h:okSlS (lo.map (ev ρ)) (hi.map (ev ρ)) (ev ρ x)) :
 (execOp (ev ρ) o).run P w=.ok (.value (slSV (lo.map (ev ρ)) (hi.map (ev ρ)) (ev ρ x))) w:=by
 unfold execOp
 simp only [ho]
 generalize ev ρ x=a at *
 generalize lo.map (ev ρ)=l at *
 generalize hi.map (ev ρ)=u at *
 cases a<;>simp only [okSlS] at h
 rename_i s
 obtain ⟨h1,h2,h3,h4,h5⟩:=h
 rcases l with _|l<;>rcases u with _|u
 ·simp [Instr.sliceAt,run_underlying (isStr_of ht),Instr.slice,Instr.sliceBounds,slSV,loN,hiN]
 ·cases u<;>simp [okI] at h2
  simp only [loN,hiN] at h3 h4 h5
  simp [Instr.sliceAt,run_underlying (isStr_of ht),Instr.slice,Instr.sliceBounds,Instr.sliceBound,asIntOf,slSV,loN,hiN,h4,h5]
 ·cases l<;>simp [okI] at h1
  simp only [loN,hiN] at h3 h4 h5
  simp [Instr.sliceAt,run_underlying (isStr_of ht),Instr.slice,Instr.sliceBounds,Instr.sliceBound,asIntOf,slSV,loN,hiN,h3,h4]
 ·cases l<;>simp [okI] at h1
  cases u<;>simp [okI] at h2
  simp only [loN,hiN] at h3 h4 h5
  rename_i k n k' m
  have e1:0≤m∧m≤(s.size:Int):=⟨by omega,h5⟩
  have e2:n≤(m.toNat:Int):=by omega
  simp only [Instr.sliceAt,Sem.run_bind,run_underlying (isStr_of ht),Result.andThen_ok]
  simp [Instr.slice,run_underlying (isStr_of ht),Instr.sliceBounds,Instr.sliceBound,asIntOf,slSV,loN,hiN,h3,e1]
  intro hc
  omega
theorem run_slV (o:Oper) (t e:TypeId) (j:TypeInfo) (x:Operand) (lo hi:Option Operand) (ho:o.op=.slice t x lo hi none) (ht:elemOf P t=some e) (hj:P.info? e=some j)
 (h:okSlV (lo.map (ev ρ)) (hi.map (ev ρ)) (ev ρ x)) :
 (execOp (ev ρ) o).run P w=.ok (.value (slVV j.size (lo.map (ev ρ)) (hi.map (ev ρ)) (ev ρ x))) w:=by
 unfold execOp
 simp only [ho]
 generalize ev ρ x=a at *
 generalize lo.map (ev ρ)=l at *
 generalize hi.map (ev ρ)=u at *
 cases a<;>simp only [okSlV] at h
 rename_i a n c
 obtain ⟨h1,h2,h3,h4,h5⟩:=h
 have hu:=run_underlying (elemOf_of ht)
 rcases l with _|l<;>rcases u with _|u
 ·simp [Instr.sliceAt,hu,Instr.slice,Instr.sliceBounds,slVV,loN,hiN,sizeOf,typeInfo,hj]
 ·cases u<;>simp [okI] at h2
  simp only [loN,hiN] at h3 h4 h5
  simp [Instr.sliceAt,hu,Instr.slice,Instr.sliceBounds,Instr.sliceBound,asIntOf,slVV,loN,hiN,h4,h5,sizeOf,typeInfo,hj]
 ·cases l<;>simp [okI] at h1
  simp only [loN,hiN] at h3 h4 h5
  rename_i n1
  by_cases hcc:c=n1.toNat<;>simp [Instr.sliceAt,hu,Instr.slice,Instr.sliceBounds,Instr.sliceBound,asIntOf,slVV,loN,hiN,h3,h4,sizeOf,typeInfo,hj,hcc]
 ·cases l<;>simp [okI] at h1
  cases u<;>simp [okI] at h2
  simp only [loN,hiN] at h3 h4 h5
  rename_i k p k' m
  have e1:0≤m∧m≤(c:Int):=⟨by omega,h5⟩
  have e2:0≤p∧p≤(m.toNat:Int):=⟨h3,by omega⟩
  simp only [Instr.sliceAt,Sem.run_bind,hu,Result.andThen_ok,Instr.slice,Instr.sliceBounds,Instr.sliceBound,asIntOf,Sem.run_pure,if_pos e1,if_true]
  by_cases hcc:c=p.toNat<;>simp [e2,Instr.sliceBound,asIntOf,sizeOf,typeInfo,hj,slVV,loN,hiN,hcc]<;>rw [if_pos zo,if_pos zo]
theorem run_b2s (o:Oper) (s t e:TypeId) (x:Operand) (ho:o.op=.convert s t x) (hs:P.underlying s=some (.slice e)) (he:P.underlying e=some (.int .u8)) (ht:P.underlying t=some .string) (h:okB2s w (ev ρ x)) :
 (execOp (ev ρ) o).run P w=.ok (.value (b2sV w (ev ρ x))) w:=by
 unfold execOp
 simp only [ho]
 generalize ev ρ x=a at *
 cases a<;>try (simp [okB2s] at h;done)
 rename_i a n c
 simp only [Sem.run_bind,run_convert_bytes_string w s t e a n c hs he ht]
 cases a with
 | none=>simp [Conv.bytesToString,b2sV,S];rfl
 | some a =>
   simp only [okB2s] at h
   have hex:∃ f:Nat→Int,∀ j,j < n→w.cell? (a.add j)=some (.int .u8 (f j)) :=
    ⟨fun j=>if hj:j < n then (h j hj).choose else 0,fun j hj=>by simp only [hj,dite_true];exact (h j hj).choose_spec⟩
   obtain ⟨f,hf⟩:=hex
   have hl:=run_loadCells (P:=P) w a n (fun j=>.int .u8 (f j)) hf
   have e1:((List.range n).map fun j=>Value.int .u8 (f j))=((List.range n).map f).map (Value.int .u8):=by simp
   rw [e1] at hl
   rw [run_bytesToString w a n c _ hl]
   have h2:∀ (l:List Int) (acc:ByteArray),l.foldl (fun r x=>r.push (UInt8.ofNat x.toNat)) acc=acc++⟨(l.map fun x=>UInt8.ofNat x.toNat).toArray⟩:=by
    intro l
    induction l with
    | nil=>intro acc;apply ByteArray.ext;simp
    | cons x l ih=>intro acc;rw [List.foldl_cons,ih];apply ByteArray.ext;simp
   rw [h2]
   simp only [Sem.run_pure,Result.andThen_ok,b2sV,S]
   congr 3
   apply ByteArray.ext
   simp only [ByteArray.data_append,ByteArray.data_empty,Array.empty_append,List.map_map]
   congr 1
   apply List.map_congr_left
   intro j hj
   simp only [List.mem_range] at hj
   simp [hf j hj,byteOfV]
theorem run_call (o:Oper) (f:Nat) (c:Call) (ho:o.op=.call c) (hc:c.callee=.value (.func f)) (hf:ownFn P f=true) :
 (execOp (ev ρ) o).run P w=.ok (.enter f (c.args.map (ev ρ))) w:=by
 unfold execOp
 simp only [ho,resolve,hc]
 unfold ownFn at hf
 cases hfn:P.funcs[f]? with
 | none=>simp [hfn] at hf
 | some fn =>
   simp only [hfn] at hf
   simp only [Bool.and_eq_true,Bool.not_eq_true',Option.isSome_iff_exists] at hf
   obtain ⟨⟨b,hb⟩,hn⟩:=hf
   simp only [beq_eq_false_iff_ne,ne_eq] at hn
   simp [ev,Deferred.ofValue,invoke,callFunc,hfn,hn,hb]
theorem fieldOf_of {s:TypeId} {f:Nat} {fd:Field} (h:fieldOf P s f=some fd):∃ fs,P.underlying s=some (.struct fs)∧fs[f]?=some fd:=by
 unfold fieldOf at h
 split at h
 ·rename_i fs hu;exact ⟨fs,hu,h⟩
 ·simp at h
theorem run_fad (o:Oper) (s:TypeId) (f:Nat) (fd:Field) (i:TypeInfo) (x:Operand) (ho:o.op=.fieldAddr s x f) (hf:fieldOf P s f=some fd) (hi:P.info? fd.type=some i) (hz:¬ i.size=0) (h:okFad (ev ρ x)) :
 (execOp (ev ρ) o).run P w=.ok (.value (fadV fd.offset (ev ρ x))) w:=by
 obtain ⟨fs,hu,hfs⟩:=fieldOf_of hf
 unfold execOp
 simp only [ho]
 generalize ev ρ x=a at *
 cases a<;>try (simp [okFad] at h;done)
 rename_i a
 cases a<;>simp [okFad] at h
 simp [Instr.fieldAt,run_underlying hu,hfs,Instr.sureAddr,fieldPlace,sizeOf,typeInfo,hi,hz,fadV]
theorem run_isAgg_none {t:TypeId} (ht:aggN P t=some none):(isAgg t).run P w=.ok false w:=by
 unfold aggN at ht
 cases hu:P.underlying t with
 | none=>simp [hu] at ht
 | some d=>cases hi:P.info? t<;>cases d<;>simp [hu,hi] at ht<;>simp [isAgg,run_underlying hu]
theorem run_isAgg_some {t:TypeId} {n:Nat} (ht:aggN P t=some (some n)):(isAgg t).run P w=.ok true w∧∃ i,P.info? t=some i∧i.size=n:=by
 unfold aggN at ht
 cases hu:P.underlying t with
 | none=>simp [hu] at ht
 | some d=>cases hi:P.info? t<;>cases d<;>simp [hu,hi] at ht<;>exact ⟨by simp [isAgg,run_underlying hu],_,rfl,ht⟩
theorem run_fld (o:Oper) (s:TypeId) (f:Nat) (fd:Field) (k:Option Nat) (x:Operand) (ho:o.op=.field s x f) (hf:fieldOf P s f=some fd) (hk:aggN P fd.type=some k) (h:okFld fd.offset k (ev ρ x)) :
 (execOp (ev ρ) o).run P w=.ok (.value (fldV fd.offset k (ev ρ x))) w:=by
 obtain ⟨fs,hu,hfs⟩:=fieldOf_of hf
 unfold execOp
 simp only [ho]
 generalize ev ρ x=a at *
 cases k with
 | none =>
   cases a<;>simp only [okFld] at h
   rename_i cs
   simp [Instr.field,run_underlying hu,hfs,asAgg,part,run_isAgg_none hk,fldV,h]
 | some n =>
   cases a<;>simp only [okFld] at h
   rename_i cs
   obtain ⟨h1,i,h2,h3⟩:=run_isAgg_some (w:=w) hk
   simp [Instr.field,run_underlying hu,hfs,asAgg,part,h1,sizeOf,typeInfo,h2,h3,fldV]
theorem fill_lay (pl:Nat→Option (Nat×Nat)):∀ (ps:List (Nat×Operand)) (l:List (Nat×Nat×Operand)) (cs:Array Value),partsAt pl ps=some l→okLay cs.toList (evP ρ l) →
 Instr.fill pl cs (ps.map fun p=>(p.1,ev ρ p.2))=some (layL cs.toList (evP ρ l)).toArray:=by
 intro ps
 induction ps with
 | nil=>intro l cs h _;simp [partsAt] at h;subst h;simp [Instr.fill,evP,layL]
 | cons p ps ih =>
   obtain ⟨i,x⟩:=p
   intro l cs h hok
   simp only [partsAt] at h
   cases hp:pl i with
   | none=>simp [hp] at h
   | some q =>
     obtain ⟨off,n⟩:=q
     cases hl:partsAt pl ps with
     | none=>simp [hp,hl] at h
     | some l' =>
       simp [hp,hl] at h
       subst h
       simp only [evP,List.map_cons,okLay] at hok
       obtain ⟨⟨h1,h2⟩,h3⟩:=hok
       simp only [List.map_cons,Instr.fill,hp,evP,layL]
       rw [if_neg (by simp [h1];simpa using h2)]
       have e:((ev ρ x).cells.zipIdx.foldl (fun cs p=>cs.setIfInBounds (off+p.2) p.1) cs).toList=(ev ρ x).cells.toList.zipIdx.foldl (fun c p=>c.set (off+p.2) p.1) cs.toList:=by
        rw [←Array.foldl_toList,Array.toList_zipIdx]
        generalize (ev ρ x).cells.toList.zipIdx=zl
        clear h1 h2 h3 hp hl ih
        induction zl generalizing cs with
        | nil=>rfl
        | cons z zl ih=>simp only [List.foldl_cons];rw [ih];simp
       have h3':okLay ((ev ρ x).cells.zipIdx.foldl (fun cs p=>cs.setIfInBounds (off+p.2) p.1) cs).toList (evP ρ l'):=by
        rw [e]
        have len:∀ (zl:List (Value×Nat)) (c:List Value),(zl.foldl (fun c p=>c.set (off+p.2) p.1) c).length=c.length:=by
         intro zl
         induction zl with
         | nil=>intro c;rfl
         | cons z zl ih=>intro c;simp only [List.foldl_cons];rw [ih];simp
        have ok:∀ (r:List (Nat×Nat×Value)) (c c':List Value),c.length=c'.length→okLay c r→okLay c' r:=by
         intro r
         induction r with
         | nil=>intro _ _ _ h;exact h
         | cons z r ih=>intro c c' hc h;obtain ⟨a,b,v⟩:=z;simp only [okLay] at h ⊢;exact ⟨⟨h.1.1,by omega⟩,ih c c' hc h.2⟩
        exact ok _ _ _ (len _ _).symm h3
       rw [ih l' _ hl h3',e]
       rfl
theorem run_places (fs:List Field) (h:fs.all (fun f=>(P.info? f.type).isSome)=true):(fs.mapM fun f=>do pure (f.offset,←sizeOf f.type):Sem (List (Nat×Nat))).run P w=.ok (fs.map fun f=>(f.offset,P.cellsOf f.type)) w:=by
 induction fs with
 | nil=>simp
 | cons f fs ih =>
   simp only [List.all_cons,Bool.and_eq_true] at h
   obtain ⟨i,hi⟩:=Option.isSome_iff_exists.1 h.1
   have hs:∀ w,(sizeOf f.type).run P w=.ok i.size w:=fun w=>by simp [sizeOf,typeInfo,hi]
   simp only [List.mapM_cons,Sem.run_bind,hs,Sem.run_pure,Result.andThen_ok,ih h.2,List.map_cons]
   simp [Program.cellsOf,hi]
theorem run_bld (o:Oper) (t:TypeId) (ps:Array (Nat×Operand)) (z:Value) (pl:Nat→Option (Nat×Nat)) (l:List (Nat×Nat×Operand)) (ho:o.op=.build t ps) (hz:(P.info? t).bind (·.zero)=some z) (hpl:places P t=some pl)
 (hl:partsAt pl ps.toList=some l) (h:okLay z.cells.toList (evP ρ l)):(execOp (ev ρ) o).run P w=.ok (.value (.agg (layL z.cells.toList (evP ρ l)).toArray)) w:=by
 have hzv:(zeroValue t).run P w=.ok z w:=by
  cases hi:P.info? t with
  | none=>simp [hi] at hz
  | some i=>simp [hi] at hz;simp [zeroValue,typeInfo,hi,hz]
 have hfill:=fill_lay (ρ:=ρ) pl ps.toList l z.cells hl h
 unfold execOp
 simp only [ho]
 unfold places at hpl
 split at hpl
 ·rename_i fs hu
  split at hpl
  ·rename_i hall
   simp only [Option.some.injEq] at hpl
   obtain ⟨fs⟩:=fs
   have hm:=run_places (P:=P) (w:=w) fs hall
   have hm':((⟨fs⟩:Array Field).mapM fun f=>do pure (f.offset,←sizeOf f.type):Sem (Array (Nat×Nat))).run P w=.ok ⟨fs.map fun f=>(f.offset,P.cellsOf f.type)⟩ w:=by
    rw [List.mapM_toArray]
    have:∀ (x:Sem (List (Nat×Nat))) r,x.run P w=.ok r w→(List.toArray <$> x).run P w=.ok r.toArray w:=fun x r hx=>by simp [hx]
    exact this _ _ hm
   subst hpl
   have hpl':(fun i:Nat=>(List.map (fun f:Field=>(f.offset,P.cellsOf f.type)) fs).toArray[i]?)=(fun i:Nat=>(((⟨fs⟩:Array Field)[i]?).map fun f=>(f.offset,P.cellsOf f.type))):=by
    funext i;simp
   simp only [Instr.build,Sem.run_bind,hzv,Result.andThen_ok,run_underlying hu,Sem.run_pure,hm']
   simp only [Array.toList_map,hpl',hfill,Sem.run_pure,Result.andThen_ok]
  ·simp at hpl
 ·rename_i k e hu
  split at hpl
  ·rename_i hall
   simp only [Option.some.injEq] at hpl
   subst hpl
   obtain ⟨i,hi⟩:=Option.isSome_iff_exists.1 hall
   have hs:∀ w,(sizeOf e).run P w=.ok (P.cellsOf e) w:=fun w=>by simp [sizeOf,typeInfo,hi,Program.cellsOf]
   simp only [Instr.build,Sem.run_bind,hzv,Result.andThen_ok,run_underlying hu,Sem.run_pure,hs]
   simp only [Array.toList_map,hfill,Sem.run_pure,Result.andThen_ok]
  ·simp at hpl
 ·simp at hpl
theorem run_bsl (o:Oper) (t e:TypeId) (n:Nat) (j:TypeInfo) (ps:Array (Nat×Operand)) (zs:List Value) (l:List (Nat×Nat×Operand)) (ho:o.op=.buildSlice t n ps) (ht:elemOf P t=some e) (hj:P.info? e=some j)
 (hz:zerosOf P e (n * P.cellsOf e)=some zs) (hl:partsAt (fun i=>some (i * P.cellsOf e,P.cellsOf e)) ps.toList=some l) (h24:n * P.cellsOf e≤2 ^ 24) (h:okLay zs (evP ρ l)) :
 (execOp (ev ρ) o).run P w=.ok (.value (.slice (some ⟨w.heap.size,0,none⟩) n n)) (w.alloc (.cells (layL zs (evP ρ l)).toArray e)):=by
 have hs:∀ w,(sizeOf e).run P w=.ok (P.cellsOf e) w:=fun w=>by simp [sizeOf,typeInfo,hj,Program.cellsOf]
 have hfill:=fill_lay (ρ:=ρ) (fun i=>some (i * P.cellsOf e,P.cellsOf e)) ps.toList l zs.toArray hl (by simpa using h)
 unfold execOp
 simp only [ho,Instr.buildSlice,Sem.run_bind,run_underlying (elemOf_of ht),Result.andThen_ok,hs]
 rw [if_neg zo]
 unfold zerosOf at hz
 by_cases hk:n * P.cellsOf e=0
 ·rw [if_pos hk] at hz
  simp only [Option.some.injEq] at hz
  subst hz
  simp only [hk,if_true,Sem.run_bind,Sem.run_pure,Result.andThen_ok]
  have e0:((Array.range 0).map fun x=>(#[]:Array Value)[x % (#[]:Array Value).size]!)=#[]:=by simp
  simp only [e0,Array.toList_map,hfill,newRow]
  simp
 ·rw [if_neg hk] at hz
  cases hzz:j.zero with
  | none=>simp [hj,hzz] at hz
  | some z =>
    simp only [hj,Option.bind_some,hzz,Option.map_some,Option.some.injEq] at hz
    have hzv:∀ w,(zeroValue e).run P w=.ok z w:=fun w=>by simp [zeroValue,typeInfo,hj,hzz]
    have e0:((Array.range (n * P.cellsOf e)).map fun x=>z.cells[x % z.cells.size]!)=zs.toArray:=by rw [←hz]
    simp only [hk,if_false,Sem.run_bind,hzv,Sem.run_pure,Result.andThen_ok]
    simp only [e0,Array.toList_map,hfill,newRow]
    simp
theorem run_eqFields (d:Nat) (xs ys:Array Value):∀ (fs:List Field) (j:Nat) (ks:List FK),flatFs P j fs=some ks→okEqL ks (xs.toList.drop j) (ys.toList.drop j) →
 (Op.eqFields (d+1) xs ys fs).run P w=.ok (eqL ks (xs.toList.drop j) (ys.toList.drop j)) w:=by
 intro fs
 induction fs with
 | nil=>intro j ks h _;simp [flatFs] at h;subst h;simp [Op.eqFields,eqL]
 | cons f fs ih =>
   intro j ks h hok
   simp only [flatFs] at h
   split at h
   ·rename_i hf
    obtain ⟨ho,hn⟩:=hf
    split at h
    ·rename_i k ks' hk hks
     injection h with h
     subst h
     have hd:∀ (l:List Value),l.drop (j+1)=(l.drop j).tail:=fun l=>by simp
     have key:∀ (a b:Value) (xs' ys':List Value) (r:Bool),xs.toList.drop j=a :: xs'→ys.toList.drop j=b :: ys'→(isAgg f.type).run P w=.ok false w→(Op.equalIn (d+1) f.type a b).run P w=.ok r w →
      okEqL ks' xs' ys'→(Op.eqFields (d+1) xs ys (f :: fs)).run P w=.ok (r && eqL ks' xs' ys') w:=by
      intro a b xs' ys' r hx hy hag heq hok'
      have hxj:xs[j]?=some a:=by
       have:=congrArg List.head? hx
       rw [List.head?_drop] at this;simpa using this
      have hyj:ys[j]?=some b:=by
       have:=congrArg List.head? hy
       rw [List.head?_drop] at this;simpa using this
      have ih':=ih (j+1) ks' hks (by rw [hd,hd,hx,hy];exact hok')
      rw [hd,hd,hx,hy] at ih'
      simp only [List.tail_cons] at ih'
      simp only [Op.eqFields,ne_eq,hn,not_false_eq_true,if_true,Sem.run_bind,part,hag,Result.andThen_ok,Bool.false_eq_true,if_false,ho,hxj,hyj,Sem.run_pure,heq]
      cases r
      ·simp
      ·simpa using ih'
     unfold fkOf at hk
     cases hx:xs.toList.drop j with
     | nil=>rw [hx] at hok;cases k<;>simp [okEqL] at hok
     | cons a xs' =>
       cases hy:ys.toList.drop j with
       | nil=>rw [hx,hy] at hok;cases k<;>cases a<;>simp [okEqL] at hok
       | cons b ys' =>
         rw [hx,hy] at hok
         split at hk
         ·rename_i i kd hi hu
          injection hk with hk;subst hk
          have hag:(isAgg f.type).run P w=.ok false w:=by simp [isAgg,run_underlying hu]
          cases a<;>cases b<;>simp only [okEqL] at hok
          obtain ⟨rfl,hok⟩:=hok
          rw [key _ _ _ _ _ hx hy hag (run_equalIn_int w d _ _ _ _ _ hu) hok];rfl
         ·rename_i i hi hu
          injection hk with hk;subst hk
          have hag:(isAgg f.type).run P w=.ok false w:=by simp [isAgg,run_underlying hu]
          cases a<;>cases b<;>simp only [okEqL] at hok
          rw [key _ _ _ _ _ hx hy hag (run_equalIn_string w d _ _ _ hu) hok];rfl
         ·rename_i i hi hu
          injection hk with hk;subst hk
          have hag:(isAgg f.type).run P w=.ok false w:=by simp [isAgg,run_underlying hu]
          cases a<;>cases b<;>simp only [okEqL] at hok
          rw [key _ _ _ _ _ hx hy hag (run_equalIn_bool' w d _ _ _ hu) hok];rfl
         ·simp at hk
    ·simp at h
   ·simp at h
theorem run_eqA (o:Oper) (op:BinOp) (t t':TypeId) (fs:Array Field) (ks:List FK) (x y:Operand) (ho:o.op=.binOp op t x y t') (hop:eqOp op) (ht:P.underlying t=some (.struct fs)) (hs:P.stoodInHeld t=false) (hg:P.eqGuardType P.depth t=false)
 (hk:flatFs P 0 fs.toList=some ks) (h:okEqA ks (ev ρ x) (ev ρ y)):(execOp (ev ρ) o).run P w=.ok (.value (eqAV (isNeq op) ks (ev ρ x) (ev ρ y))) w:=by
 unfold execOp
 simp only [ho]
 generalize ev ρ x=a at *
 generalize ev ρ y=b at *
 cases a<;>simp only [okEqA] at h
 cases b<;>simp only [okEqA] at h
 rename_i xs ys
 have hfs:P.fieldsOf t=fs:=by simp [Program.fieldsOf,ht]
 have he:=run_equalIn_struct (P:=P) w 9999 t xs ys (by rw [hfs];exact ht) hs
 have hf:=run_eqFields (P:=P) (w:=w) 9998 xs ys fs.toList 0 ks hk (by simpa using h)
 rw [hfs,hf] at he
 simp only [List.drop_zero] at he
 cases op<;>simp [eqOp] at hop
 ·simp only [Sem.run_bind,run_eqGuard_agg w .eql t x y xs ys hg,Result.andThen_ok,run_eql_struct,he,Sem.run_pure];rfl
 ·simp only [Sem.run_bind,run_eqGuard_agg w .neq t x y xs ys hg,Result.andThen_ok,run_neq_struct,he,Sem.run_pure];rfl
end
variable {D:List Deferred}
section
variable {P:Program} {ρ:Fr} {w:World} {n:Nat}
theorem run_cmA (o:Oper) (p:Op) (ho:o.op=p) (h:okM ρ w (cmA P o p)) :
 (execOp (ev ρ) o).run P w=.ok (.value (vM ρ w (cmA P o p))) (wM ρ w (cmA P o p)) ∨
 ((execOp (ev ρ) o).run P w=.ok .skip (wM ρ w (cmA P o p))∧vM ρ w (cmA P o p)=undef∧∃ n x y,cmA P o p=.st n x y):=by
 unfold cmA at *
 split at h
 case h_1 x=>left;unfold execOp;simp [ho,vM,wM]
 case h_2 x=>left;unfold execOp;simp [ho,vM,wM]
 case h_3 c a b=>left;exact run_pick o c a b ho h
 case h_4 op t x y t' =>
  left
  split at h
  ·rename_i h1
   (try simp only [h1,if_true] at h ⊢)
   refine run_bin o op t t' x y ho ?_ h
   cases op<;>simp_all [plainOp,eqOp]
  ·rename_i h1
   (try simp only [h1,if_false,Bool.false_eq_true] at h ⊢)
   split at h
   ·rename_i h2
    (try simp only [h2,if_true] at h ⊢)
    simp only [Bool.and_eq_true] at h2
    exact run_eqb o op t t' x y ho h2.1 h2.2 h.1 h.2
   ·rename_i h2
    simp only [h2,if_false,Bool.false_eq_true]
    split at h
    ·rename_i h3
     rw [if_pos h3]
     unfold cmEqA at *
     split at h
     ·rename_i fs hu
      split at h
      ·simp [okM] at h
      ·rename_i hg
       rw [if_neg hg]
       simp only [Bool.or_eq_true,not_or,Bool.not_eq_true] at hg
       split at h
       ·rename_i ks hks;exact run_eqA o op t t' fs ks x y ho h3 hu hg.1 hg.2 hks h
       ·simp [okM] at h
     ·simp [okM] at h
    ·simp [okM] at h
 case h_5 op t x=>left;exact run_un o op t x ho h
 case h_6 s t x =>
  left
  split at h
  ·rename_i j k hs ht;(try simp only [hs,ht] at h ⊢);exact run_cvi o s t j k x ho hs ht h
  ·rename_i hs ht;(try simp only [hs,ht] at h ⊢);exact run_cvs o s t x ho hs ht h
  ·rename_i e hs ht
   (try simp only [hs,ht] at h ⊢)
   split at h
   ·rename_i he;(try simp only [he] at h ⊢);exact run_b2s o s t e x ho hs he ht h
   ·simp [okM] at h
  ·simp [okM] at h
 case h_7 t x =>
  left
  split at h
  ·rename_i k hk
   (try simp only [hk] at h ⊢)
   cases k with
   | none=>exact run_ld1 o t x ho hk h
   | some m=>exact run_ldN o t m x ho hk h
  ·simp [okM] at h
 case h_8 t x y =>
  right
  split at h
  ·rename_i i hi;(try simp only [hi] at h ⊢);exact ⟨run_st o t i x y ho hi h,rfl,_,_,_,rfl⟩
  ·simp [okM] at h
 case h_9 t x i =>
  left
  split at h
  ·rename_i ht;(try simp only [ht,if_true] at h ⊢);exact run_idxS o t x i ho ht h
  ·simp [okM] at h
 case h_10 t x i =>
  left
  split at h
  ·rename_i e he
   (try simp only [he] at h ⊢)
   split at h
   ·rename_i j hj;(try simp only [hj] at h ⊢);exact run_adr o t e j x i ho he hj h
   ·simp [okM] at h
  ·rename_i hn
   (try simp only [hn] at h ⊢)
   split at h
   ·rename_i ne he
    (try simp only [he] at h ⊢)
    split at h
    ·rename_i j hj;(try simp only [hj] at h ⊢);exact run_adA o t ne j x i ho he hj h
    ·simp [okM] at h
   ·simp [okM] at h
 case h_11 x i=>left;exact run_ext o i x ho h
 case h_12 c =>
  left
  unfold cmCall at *
  split at h
  ·rename_i hb
   (try simp only [hb] at h ⊢)
   split at h
   ·rename_i x t hx ht0
    (try simp only [hx,ht0] at h ⊢)
    have ho':o.op=.call { callee:=.builtin .len,args:=#[x],argTypes:=#[t] }:=by
     rw [ho]
     obtain ⟨ce,as,ats⟩:=c
     obtain ⟨as⟩:=as
     obtain ⟨ats⟩:=ats
     simp only at hb hx ht0
     subst hb;subst hx;subst ht0;rfl
    split at h
    ·rename_i ht;(try simp only [ht,if_true] at h ⊢);exact run_lenS o t x ho' ht h
    ·rename_i ht
     (try simp only [ht,if_false,Bool.false_eq_true] at h ⊢)
     split at h
     ·rename_i he
      (try simp only [he,if_true] at h ⊢)
      obtain ⟨e,he'⟩:=Option.isSome_iff_exists.1 he
      exact run_lenL o t e x ho' he' h
     ·simp [okM] at h
   ·simp [okM] at h
  ·split at h<;>simp [okM] at h
  ·simp [okM] at h
 case h_13 t x lo hi mx =>
  left
  unfold cmSlice at *
  cases mx with
  | some _=>simp [okM] at h
  | none =>
    simp only at h ⊢
    split at h
    ·rename_i ht;(try simp only [ht,if_true] at h ⊢);exact run_slS o t x lo hi ho ht h
    ·rename_i ht
     (try simp only [ht,if_false,Bool.false_eq_true] at h ⊢)
     split at h
     ·rename_i e he
      (try simp only [he] at h ⊢)
      split at h
      ·rename_i j hj;(try simp only [hj] at h ⊢);exact run_slV o t e j x lo hi ho he hj h
      ·simp [okM] at h
     ·simp [okM] at h
 case h_14 t =>
  left
  split at h
  ·rename_i z hz;(try simp only [hz] at h ⊢);exact run_alc o t z ho hz
  ·simp [okM] at h
 case h_15 x=>left;exact run_nck o x ho h
 case h_16 s x f =>
  left
  unfold cmFad at *
  split at h
  ·rename_i fd hf
   split at h
   ·rename_i i hi
    split at h
    ·simp [okM] at h
    ·rename_i hz;rw [if_neg hz];exact run_fad o s f fd i x ho hf hi hz h
   ·simp [okM] at h
  ·simp [okM] at h
 case h_17 s x f =>
  left
  unfold cmFld at *
  split at h
  ·rename_i fd hf
   split at h
   ·rename_i k hk;exact run_fld o s f fd k x ho hf hk h
   ·simp [okM] at h
  ·simp [okM] at h
 case h_18 t ps =>
  left
  unfold cmBld at *
  split at h
  ·rename_i z pl hz hpl
   split at h
   ·rename_i l hl;exact run_bld o t ps z pl l ho hz hpl hl h
   ·simp [okM] at h
  ·simp [okM] at h
 case h_19 t n ps =>
  left
  unfold cmBsl at *
  split at h
  ·rename_i e he
   split at h
   ·rename_i j zs l hj hz hl
    split at h
    ·rename_i h24;rw [if_pos h24];exact run_bsl o t e n j ps zs l ho he hj hz hl h24 h
    ·simp [okM] at h
   ·simp [okM] at h
  ·simp [okM] at h
 case h_20=>simp [okM] at h
theorem run_cm (o:Oper) (h:okM ρ w (cm P o)) :
 (execOp (ev ρ) o).run P w=.ok (.value (vM ρ w (cm P o))) (wM ρ w (cm P o)) ∨
 ((execOp (ev ρ) o).run P w=.ok .skip (wM ρ w (cm P o))∧vM ρ w (cm P o)=undef):=(run_cmA o o.op rfl h).imp id fun h=>⟨h.1,h.2.1⟩
def pureM:MO→Bool
 | .mv _|.pick _ _ _|.bin _ _ _|.eqb _ _ _|.eqA _ _ _ _|.un _ _|.cvi _ _|.cvs _|.len _|.lenS _|.idxS _ _|.adr _ _ _|.adA _ _ _ _|.fad _ _|.fld _ _ _|.ext _ _|.slS _ _ _|.slV _ _ _ _|.nck _|.bld _ _=>true
 | _=>false
theorem okM_pure {m:MO} (hp:pureM m=true) (w':World):okM ρ w' m=okM ρ w m∧vM ρ w' m=vM ρ w m∧wM ρ w' m=w':=by
 cases m<;>simp [pureM] at hp<;>exact ⟨rfl,rfl,rfl⟩
theorem run_pure (o:Oper) (hp:pureM (cm P o)=true) (h:okM ρ w (cm P o)) (w':World):(execOp (ev ρ) o).run P w'=.ok (.value (vM ρ w (cm P o))) w':=by
 obtain ⟨h1,h2,h3⟩:=okM_pure (ρ:=ρ) (w:=w) hp w'
 rcases run_cmA (P:=P) (w:=w') o o.op rfl (by rw [←h1] at h;exact h) with h4|⟨_,_,n,x,y,h4⟩
 ·have h5:cmA P o o.op=cm P o:=rfl
  rw [h5,h2,h3] at h4;exact h4
 ·have h5:cmA P o o.op=cm P o:=rfl
  rw [h5] at h4;rw [h4] at hp;simp [pureM] at hp
theorem cmA_cases (o:Oper) (p:Op) (ho:o.op=p):(∃ f args c,cmA P o p=.call f args∧o.op=.call c∧c.callee=.value (.func f)∧ownFn P f=true∧args=c.args.toList)∨(cmA P o p=.raw o.op o.type)∨((∀ f args,cmA P o p≠.call f args)∧∀ op ty,cmA P o p≠.raw op ty):=by
 unfold cmA
 split
 case h_12 c =>
  unfold cmCall
  split
  ·split
   ·split
    ·simp
    ·split<;>simp
   ·simp
  ·rename_i f hf
   split
   ·rename_i hown
    exact .inl ⟨f,_,c,rfl,ho,hf,hown,rfl⟩
   ·simp
  ·simp
 case h_13 =>
  unfold cmSlice
  split
  ·split
   ·simp
   ·split
    ·split<;>simp
    ·simp
  ·simp
 case h_16 =>
  unfold cmFad
  split
  ·split
   ·split<;>simp
   ·simp
  ·simp
 case h_17 =>
  unfold cmFld
  split
  ·split<;>simp
  ·simp
 case h_18 =>
  unfold cmBld
  split
  ·split<;>simp
  ·simp
 case h_19 =>
  unfold cmBsl
  split
  ·split
   ·split<;>simp
   ·simp
  ·simp
 case h_4 =>
  split
  ·simp
  ·split
   ·simp
   ·split
    ·unfold cmEqA
     split
     ·split
      ·simp
      ·split<;>simp
     ·simp
    ·simp
 case h_6 =>
  split
  ·simp
  ·simp
  ·split<;>simp
  ·simp
 case h_10 =>
  split
  ·split<;>simp
  ·split
   ·split<;>simp
   ·simp
 all_goals first|(simp;done)|(split<;>simp)
theorem cm_cases (o:Oper):(∃ f args c,cm P o=.call f args∧o.op=.call c∧c.callee=.value (.func f)∧ownFn P f=true∧args=c.args.toList)∨(cm P o=.raw o.op o.type)∨((∀ f args,cm P o≠.call f args)∧∀ op ty,cm P o≠.raw op ty):=cmA_cases o o.op rfl
theorem cm_call (o:Oper) (f:Nat) (args:List Operand) (h:cm P o=.call f args):(execOp (ev ρ) o).run P w=.ok (.enter f (args.map (ev ρ)).toArray) w:=by
 rcases cm_cases (P:=P) o with ⟨f',args',c,h1,h2,h3,h4,h5⟩|h1|⟨h1,_⟩
 ·rw [h1] at h
  injection h with e1 e2
  subst e1;subst e2;subst h5
  rw [run_call o f' c h2 h3 h4]
  congr 2
  rw [←List.map_toArray]
 ·rw [h1] at h;simp at h
 ·exact absurd h (h1 f args)
theorem cm_raw (o:Oper) (op:Op) (ty:TypeId) (h:cm P o=.raw op ty):op=o.op∧ty=o.type:=by
 rcases cm_cases (P:=P) o with ⟨f',args',c,h1,_⟩|h1|⟨_,h1⟩
 ·rw [h1] at h;simp at h
 ·rw [h1] at h;injection h with h h';exact ⟨h.symm,h'.symm⟩
 ·exact absurd h (h1 op ty)
theorem OS_sound (o:Oper) (next:Fr→World→Prop) (a:Act) (Q:Exit→Act→World→Prop) (hr:Rel D n a ρ) (hd:∀ k,o.dst=some k→k < n) (h:OS P o.dst (cm P o) ρ w next) :
 o.wp P a w (fun a' w'=>∃ ρ',Rel D n a' ρ'∧next ρ' w') Q:=by
 unfold Oper.wp
 rw [hr.evalF]
 by_cases hc:∃ f args,cm P o=.call f args
 ·obtain ⟨f,args,hc⟩:=hc
  rw [cm_call o f args hc,Oper.upon_enter]
  rw [hc] at h
  simp only [OS,CallK,Ret] at h
  refine Calls.mono h fun e w' ⟨v,he,hn⟩=>?_
  subst he
  exact ⟨_,hr.put o.dst v hd,hn⟩
 ·by_cases hw:∃ op ty,cm P o=.raw op ty
  ·obtain ⟨op,ty,hw⟩:=hw
   obtain ⟨rfl,rfl⟩:=cm_raw o op ty hw
   rw [hw] at h
   simp only [OS,RawK] at h
   have he:execOp (ev ρ) (opr o.op o.type)=execOp (ev ρ) o:=rfl
   rw [he] at h
   rcases h with ⟨v,w',h1,h2⟩|⟨w',h1,h2⟩|⟨f,args,w',h1,h2⟩
   ·rw [h1,Oper.upon_value];exact ⟨_,hr.put _ v hd,h2⟩
   ·rw [h1,Oper.upon_skip];exact ⟨_,hr.put _ undef hd,h2⟩
   ·rw [h1,Oper.upon_enter]
    refine Calls.mono h2 fun e w' ⟨v,he,hn⟩=>?_
    subst he
    exact ⟨_,hr.put o.dst v hd,hn⟩
  ·have hok:okM ρ w (cm P o)∧next (updO ρ o.dst (vM ρ w (cm P o))) (wM ρ w (cm P o)):=by
    generalize cm P o=m at *
    cases m<;>first|exact h|(exfalso;exact hc ⟨_,_,rfl⟩)|(exfalso;exact hw ⟨_,_,rfl⟩)
   rcases run_cm o hok.1 with h1|⟨h1,h2⟩
   ·rw [h1,Oper.upon_value];exact ⟨_,hr.put _ _ hd,hok.2⟩
   ·rw [h1,Oper.upon_skip,←h2];exact ⟨_,hr.put _ _ hd,hok.2⟩
def cop (P:Program) (ops:Array Oper) (o:Oper):ML :=
 { g:=o.guard.bind fun p=>((ops[p.1]?).bind (·.dst)).map fun s=>(s,p.2),d:=o.dst,m:=cm P o }
def okOp (n:Nat) (ops:Array Oper) (o:Oper):Bool :=
 (match o.dst with|some k=>decide (k < n)|none=>true) && (match o.guard with|none=>true|some p=>((ops[p.1]?).bind (·.dst)).isSome)
theorem wanted_eq {a:Act} (hr:Rel D n a ρ) (ops:Array Oper) (o:Oper) (ho:okOp n ops o=true) :
 Region.wanted o (yielded ops a.tmps)=gF ρ (cop P ops o).g:=by
 unfold Region.wanted cop
 simp only [okOp,Bool.and_eq_true] at ho
 cases hg:o.guard with
 | none=>simp [gF]
 | some p =>
   obtain ⟨j,b⟩:=p
   have h2:=ho.2
   simp only [hg] at h2
   obtain ⟨s,hs⟩:=Option.isSome_iff_exists.1 h2
   simp only [Option.bind_some,hs,Option.map_some,yielded,gF]
   have:=hr.2.2 s
   rw [←this]
   simp only [Array.getD_eq_getD_getElem?]
   cases hx:a.tmps[s]? with
   | none=>simp [wantF,undef]
   | some v=>cases v<;>simp [wantF]
theorem O_wpList {ops:Array Oper} {K:Fr→World→Prop}:∀ (l:List Oper) (ρ:Fr) (w:World) (a:Act),(∀ o∈l,okOp n ops o=true)→Rel D n a ρ→O P K (l.map (cop P ops)) ρ w →
 wpList P ops (fun e a' w'=>e=.normal∧∃ ρ',Rel D n a' ρ'∧K ρ' w') l a w:=by
 intro l
 induction l with
 | nil=>intro ρ w a _ hr h;exact ⟨rfl,ρ,hr,h⟩
 | cons o l ih =>
   intro ρ w a hl hr h
   have ho:=hl o ze
   have hd:∀ k,o.dst=some k→k < n:=by
    intro k hk
    simp only [okOp,hk,Bool.and_eq_true,decide_eq_true_eq] at ho
    exact ho.1
   have hw:=wanted_eq (P:=P) hr ops o ho
   simp only [List.map_cons,O] at h
   unfold wpList
   rw [hw]
   obtain ⟨t,ht⟩:∃ t,t=gF ρ (cop P ops o).g:=⟨_,rfl⟩
   rw [←ht]
   replace h:if t=true then OS P (cop P ops o).d (cop P ops o).m ρ w (O P K (l.map (cop P ops))) else O P K (l.map (cop P ops)) (updO ρ (cop P ops o).d undef) w:=by
    rw [ht];exact h
   clear ht
   cases t
   ·simp only [Bool.false_eq_true,if_false] at h ⊢
    exact ih _ w _ (fun o ho=>hl o (by simp [ho])) (hr.put _ _ hd) h
   ·simp only [if_true] at h ⊢
    left
    refine Oper.wp_mono ?_ (OS_sound o (O P K (l.map (cop P ops))) a _ hr hd h)
    rintro a' w' ⟨ρ',hr',h'⟩
    exact ih ρ' w' a' (fun o ho=>hl o (by simp [ho])) hr' h'
end
variable {D:List Deferred}
def Ext (w w':World):Prop:=Below w.heap.size w w'
theorem Ext.refl (w:World):Ext w w:=Below.refl _ _
theorem Ext.trans {a b c:World} (h:Ext a b) (k:Ext b c):Ext a c:=Below.trans h (Below.mono k h.size)
theorem Ext.alloc {a w:World} (h:Ext a w) (o:Obj):Ext a (w.alloc o):=Below.alloc h h.size o
theorem Ext.drew {a w:World} (h:Ext a w):Ext a w.drew:=Below.drew h
theorem Ext.cell {w w':World} (h:Ext w w') {p:Addr} {v:Value} (hc:w.cell? p=some v):w'.cell? p=some v:=(Below.cell h (World.block_lt_of_cell? _ _ hc)).trans hc
theorem Ext.size {w w':World} (h:Ext w w'):w.heap.size≤w'.heap.size:=Below.size h
def plainM:MO→Bool
 | .call _ _|.raw _ _|.st _ _ _|.alc _ _|.bsl _ _ _ _=>false
 | _=>true
def okQ (ρ:Fr) (w:World):MO→Prop:=okM ρ w
theorem okLd_ext {w w':World} (h:Ext w w') {n:Option Nat} {v:Value} (hl:okLd w n v):okLd w' n v∧ldV w' n v=ldV w n v:=by
 unfold okLd at hl
 split at hl
 ·rename_i a
  obtain ⟨x,hx⟩:=Option.isSome_iff_exists.1 hl
  have:=h.cell hx
  simp [okLd,ldV,hx,this]
 ·rename_i n a
  have e:∀ j,j < n→w'.cell? (a.add j)=w.cell? (a.add j):=fun j hj=>by
   obtain ⟨x,hx⟩:=Option.isSome_iff_exists.1 (hl j hj)
   rw [hx];exact h.cell hx
  refine ⟨fun j hj=>by rw [e j hj];exact hl j hj,?_⟩
  simp only [ldV]
  congr 2
  refine List.map_congr_left fun j hj=>?_
  simp only [List.mem_range] at hj
  rw [e j hj]
 ·exact hl.elim
theorem okB2s_ext {w w':World} (h:Ext w w') {v:Value} (hl:okB2s w v):okB2s w' v∧b2sV w' v=b2sV w v:=by
 unfold okB2s at hl
 split at hl
 ·rename_i a n c
  have e:∀ j,j < n→w'.cell? (a.add j)=w.cell? (a.add j):=fun j hj=>by
   obtain ⟨x,hx⟩:=hl j hj
   rw [hx];exact h.cell hx
  refine ⟨fun j hj=>by rw [e j hj];exact hl j hj,?_⟩
  simp only [b2sV]
  congr 1
  refine List.map_congr_left fun j hj=>?_
  simp only [List.mem_range] at hj
  rw [e j hj]
 ·exact ⟨trivial,rfl⟩
 ·exact hl.elim
theorem okM_ext {w w':World} (h:Ext w w') {ρ:Fr} {m:MO} (hp:plainM m=true) (hl:okM ρ w m):okM ρ w' m∧vM ρ w' m=vM ρ w m∧wM ρ w' m=w'∧wM ρ w m=w:=by
 cases m<;>simp [plainM] at hp<;>simp only [okM,vM,wM] at *<;>refine ⟨?_,?_,?_,?_⟩<;>first|trivial|exact hl|exact (okLd_ext h hl).1|exact (okLd_ext h hl).2|exact (okB2s_ext h hl).1|exact (okB2s_ext h hl).2
def CallQ (P:Program) (f:Nat) (args:List Value) (w:World) (d:Option Nat) (ρ:Fr) (next:Fr→Prop):Prop :=
 ∃ v,(∀ w',Ext w w'→Ret P f args.toArray w' fun v' w''=>v'=v∧Ext w' w'')∧next (updO ρ d v)
def RawQ (P:Program) (op:Op) (ty:TypeId) (d:Option Nat) (ρ:Fr) (w:World) (next:Fr→Prop):Prop :=
 ∃ v,(∀ w',Ext w w'→(execOp (ev ρ) (opr op ty)).run P w'=.ok (.value v) w')∧next (updO ρ d v)
def QS (P:Program) (d:Option Nat) (m:MO) (ρ:Fr) (w:World) (next:Fr→Prop):Prop :=
 match m with
 | .call f args=>CallQ P f (args.map (ev ρ)) w d ρ next
 | .raw op ty=>RawQ P op ty d ρ w next
 | m=>(plainM m=true∧okQ ρ w m)∧next (updO ρ d (vM ρ w m))
def Q (P:Program) (K:Fr→Prop) (w:World):List ML→Fr→Prop
 | [],ρ=>K ρ
 | ⟨g,d,m⟩ :: rest,ρ=>if gF ρ g=true then QS P d m ρ w (Q P K w rest) else Q P K w rest (updO ρ d undef)
section
variable {P:Program} {K:Fr→Prop} {rest:List ML} {ρ:Fr} {w:World} {d:Option Nat}
theorem Q_nil:Q P K w [] ρ=K ρ:=rfl
theorem Q_g (s:Nat) (b:Bool) (m:MO):Q P K w (⟨some (s,b),d,m⟩ :: rest) ρ=if wantF (ρ s) b=true then Q P K w (⟨none,d,m⟩ :: rest) ρ else Q P K w rest (updO ρ d undef):=by
 by_cases h:wantF (ρ s) b=true<;>simp [Q,gF,h]
theorem Q_call (f:Nat) (args:List Operand):Q P K w (⟨none,d,.call f args⟩ :: rest) ρ=CallQ P f (args.map (ev ρ)) w d ρ (Q P K w rest):=by simp [Q,gF,QS]
theorem Q_pure (m:MO) (hm:plainM m=true):Q P K w (⟨none,d,m⟩ :: rest) ρ=(okQ ρ w m∧Q P K w rest (updO ρ d (vM ρ w m))):=by
 cases m<;>simp [plainM] at hm<;>simp [Q,gF,QS,plainM]
theorem Q_mv (x:Operand):Q P K w (⟨none,d,.mv x⟩ :: rest) ρ=Q P K w rest (updO ρ d (ev ρ x)):=by rw [Q_pure _ rfl];simp [okQ,okM,vM]
theorem Q_pick (c a b:Operand):Q P K w (⟨none,d,.pick c a b⟩ :: rest) ρ=(isB (ev ρ c)∧Q P K w rest (updO ρ d (pickV (ev ρ c) (ev ρ a) (ev ρ b)))):=by rw [Q_pure _ rfl];simp [okQ,okM,vM]
theorem Q_bin (op:BinOp) (x y:Operand):Q P K w (⟨none,d,.bin op x y⟩ :: rest) ρ=(okB op (ev ρ x) (ev ρ y)∧Q P K w rest (updO ρ d (valB op (ev ρ x) (ev ρ y)))):=by rw [Q_pure _ rfl];simp [okQ,okM,vM]
theorem Q_eqb (neg:Bool) (x y:Operand):Q P K w (⟨none,d,.eqb neg x y⟩ :: rest) ρ=((isB (ev ρ x)∧isB (ev ρ y))∧Q P K w rest (updO ρ d (eqbV neg (ev ρ x) (ev ρ y)))):=by rw [Q_pure _ rfl];simp [okQ,okM,vM]
theorem Q_eqA (neg:Bool) (ks:List FK) (x y:Operand):Q P K w (⟨none,d,.eqA neg ks x y⟩ :: rest) ρ=(okEqA ks (ev ρ x) (ev ρ y)∧Q P K w rest (updO ρ d (eqAV neg ks (ev ρ x) (ev ρ y)))):=by rw [Q_pure _ rfl];simp [okQ,okM,vM]
theorem Q_un (op:UnOp) (x:Operand):Q P K w (⟨none,d,.un op x⟩ :: rest) ρ=(okU op (ev ρ x)∧Q P K w rest (updO ρ d (valU op (ev ρ x)))):=by rw [Q_pure _ rfl];simp [okQ,okM,vM]
theorem Q_cvi (k:IntKind) (x:Operand):Q P K w (⟨none,d,.cvi k x⟩ :: rest) ρ=(isI (ev ρ x)∧Q P K w rest (updO ρ d (cviV k (ev ρ x)))):=by rw [Q_pure _ rfl];simp [okQ,okM,vM]
theorem Q_cvs (x:Operand):Q P K w (⟨none,d,.cvs x⟩ :: rest) ρ=(isS (ev ρ x)∧Q P K w rest (updO ρ d (ev ρ x))):=by rw [Q_pure _ rfl];simp [okQ,okM,vM]
theorem Q_b2s (x:Operand):Q P K w (⟨none,d,.b2s x⟩ :: rest) ρ=(okB2s w (ev ρ x)∧Q P K w rest (updO ρ d (b2sV w (ev ρ x)))):=by
 rw [Q_pure _ rfl]
 simp only [okQ,okM,vM]
theorem Q_len (x:Operand):Q P K w (⟨none,d,.len x⟩ :: rest) ρ=(isL (ev ρ x)∧Q P K w rest (updO ρ d (lenV (ev ρ x)))):=by rw [Q_pure _ rfl];simp [okQ,okM,vM]
theorem Q_lenS (x:Operand):Q P K w (⟨none,d,.lenS x⟩ :: rest) ρ=(isS (ev ρ x)∧Q P K w rest (updO ρ d (lenV (ev ρ x)))):=by rw [Q_pure _ rfl];simp [okQ,okM,vM]
theorem Q_idxS (x i:Operand):Q P K w (⟨none,d,.idxS x i⟩ :: rest) ρ=(okIdxS (ev ρ x) (ev ρ i)∧Q P K w rest (updO ρ d (idxSV (ev ρ x) (ev ρ i)))):=by rw [Q_pure _ rfl];simp [okQ,okM,vM]
theorem Q_adA (n sz:Nat) (x i:Operand):Q P K w (⟨none,d,.adA n sz x i⟩ :: rest) ρ=(okAdA n (ev ρ x) (ev ρ i)∧Q P K w rest (updO ρ d (adAV sz (ev ρ x) (ev ρ i)))):=by rw [Q_pure _ rfl];simp [okQ,okM,vM]
theorem Q_adr (sz:Nat) (x i:Operand):Q P K w (⟨none,d,.adr sz x i⟩ :: rest) ρ=(okAdr (ev ρ x) (ev ρ i)∧Q P K w rest (updO ρ d (adrV sz (ev ρ x) (ev ρ i)))):=by rw [Q_pure _ rfl];simp [okQ,okM,vM]
theorem Q_ld (n:Option Nat) (x:Operand):Q P K w (⟨none,d,.ld n x⟩ :: rest) ρ=(okLd w n (ev ρ x)∧Q P K w rest (updO ρ d (ldV w n (ev ρ x)))):=by
 rw [Q_pure _ rfl]
 simp only [okQ,okM,vM]
theorem Q_fad (off:Nat) (x:Operand):Q P K w (⟨none,d,.fad off x⟩ :: rest) ρ=(okFad (ev ρ x)∧Q P K w rest (updO ρ d (fadV off (ev ρ x)))):=by rw [Q_pure _ rfl];simp [okQ,okM,vM]
theorem Q_fld (off:Nat) (n:Option Nat) (x:Operand):Q P K w (⟨none,d,.fld off n x⟩ :: rest) ρ=(okFld off n (ev ρ x)∧Q P K w rest (updO ρ d (fldV off n (ev ρ x)))):=by rw [Q_pure _ rfl];simp [okQ,okM,vM]
theorem Q_ext (i:Nat) (x:Operand):Q P K w (⟨none,d,.ext i x⟩ :: rest) ρ=(okExt i (ev ρ x)∧Q P K w rest (updO ρ d (extV i (ev ρ x)))):=by rw [Q_pure _ rfl];simp [okQ,okM,vM]
theorem Q_slS (x:Operand) (lo hi:Option Operand):Q P K w (⟨none,d,.slS x lo hi⟩ :: rest) ρ=(okSlS (lo.map (ev ρ)) (hi.map (ev ρ)) (ev ρ x)∧Q P K w rest (updO ρ d (slSV (lo.map (ev ρ)) (hi.map (ev ρ)) (ev ρ x)))):=by rw [Q_pure _ rfl];simp [okQ,okM,vM]
theorem Q_slV (sz:Nat) (x:Operand) (lo hi:Option Operand):Q P K w (⟨none,d,.slV sz x lo hi⟩ :: rest) ρ=(okSlV (lo.map (ev ρ)) (hi.map (ev ρ)) (ev ρ x)∧Q P K w rest (updO ρ d (slVV sz (lo.map (ev ρ)) (hi.map (ev ρ)) (ev ρ x)))):=by rw [Q_pure _ rfl];simp [okQ,okM,vM]
theorem Q_nck (x:Operand):Q P K w (⟨none,d,.nck x⟩ :: rest) ρ=(okNck (ev ρ x)∧Q P K w rest (updO ρ d (ev ρ x))):=by rw [Q_pure _ rfl];simp [okQ,okM,vM]
theorem Q_bld (zs:List Value) (ps:List (Nat×Nat×Operand)):Q P K w (⟨none,d,.bld zs ps⟩ :: rest) ρ=(okLay zs (evP ρ ps)∧Q P K w rest (updO ρ d (.agg (layL zs (evP ρ ps)).toArray))):=by rw [Q_pure _ rfl];simp [okQ,okM,vM]
end
section
variable {P:Program} {ρ:Fr} {w:World} {n:Nat}
theorem QS_sound (o:Oper) (next:Fr→Prop) (a:Act) (hr:Rel D n a ρ) (hd:∀ k,o.dst=some k→k < n) (h:QS P o.dst (cm P o) ρ w next):o.quiet P a (Ext w) (fun a'=>∃ ρ',Rel D n a' ρ'∧next ρ'):=by
 unfold Oper.quiet Oper.quietAt
 rw [hr.evalF]
 by_cases hc:∃ f args,cm P o=.call f args
 ·obtain ⟨f,args,hc⟩:=hc
  rw [hc] at h
  simp only [QS,CallQ] at h
  obtain ⟨v,h1,h2⟩:=h
  refine ⟨v,fun w' hw'=>?_,_,hr.put _ v hd,h2⟩
  rw [cm_call o f args hc]
  refine ⟨rfl,Calls.mono (h1 w' hw') fun e w'' ⟨v',he,hv,hx⟩=>⟨by rw [he,hv],hw'.trans hx⟩⟩
 ·by_cases hw:∃ op ty,cm P o=.raw op ty
  ·obtain ⟨op,ty,hw⟩:=hw
   obtain ⟨rfl,rfl⟩:=cm_raw o op ty hw
   rw [hw] at h
   simp only [QS,RawQ] at h
   obtain ⟨v,h1,h2⟩:=h
   refine ⟨v,fun w' hw'=>?_,_,hr.put _ v hd,h2⟩
   have he:execOp (ev ρ) (opr o.op o.type)=execOp (ev ρ) o:=rfl
   rw [←he,h1 w' hw']
   exact ⟨rfl,rfl⟩
  ·have hok:(plainM (cm P o)=true∧okQ ρ w (cm P o))∧next (updO ρ o.dst (vM ρ w (cm P o))):=by
    generalize cm P o=m at *
    cases m<;>first|exact h|(exfalso;exact hc ⟨_,_,rfl⟩)|(exfalso;exact hw ⟨_,_,rfl⟩)
   refine ⟨vM ρ w (cm P o),fun w' hw'=>?_,_,hr.put _ _ hd,hok.2⟩
   obtain ⟨h1,h2,h3,_⟩:=okM_ext hw' hok.1.1 hok.1.2
   rcases run_cm (P:=P) (w:=w') o h1 with h4|⟨h4,h5⟩
   ·rw [h4,h2,h3];exact ⟨rfl,rfl⟩
   ·rw [h4,h3];exact ⟨rfl,by rw [←h2,h5]⟩
theorem Q_wpQuiet {ops:Array Oper} {K:Fr→Prop}:∀ (l:List Oper) (ρ:Fr) (a:Act),(∀ o∈l,okOp n ops o=true)→Rel D n a ρ→Q P K w (l.map (cop P ops)) ρ →
 wpQuiet P ops (Ext w) (fun a'=>∃ ρ',Rel D n a' ρ'∧K ρ') l a:=by
 intro l
 induction l with
 | nil=>intro ρ a _ hr h;exact ⟨ρ,hr,h⟩
 | cons o l ih =>
   intro ρ a hl hr h
   have ho:=hl o ze
   have hd:∀ k,o.dst=some k→k < n:=by
    intro k hk
    simp only [okOp,hk,Bool.and_eq_true,decide_eq_true_eq] at ho
    exact ho.1
   have hw:=wanted_eq (P:=P) hr ops o ho
   simp only [List.map_cons,Q] at h
   unfold wpQuiet
   rw [hw]
   obtain ⟨t,ht⟩:∃ t,t=gF ρ (cop P ops o).g:=⟨_,rfl⟩
   rw [←ht]
   replace h:if t=true then QS P (cop P ops o).d (cop P ops o).m ρ w (Q P K w (l.map (cop P ops))) else Q P K w (l.map (cop P ops)) (updO ρ (cop P ops o).d undef):=by
    rw [ht];exact h
   clear ht
   cases t
   ·simp only [Bool.false_eq_true,if_false] at h ⊢
    exact ih _ _ (fun o ho=>hl o (by simp [ho])) (hr.put _ _ hd) h
   ·simp only [if_true] at h ⊢
    refine Oper.quiet_mono ?_ (QS_sound o (Q P K w (l.map (cop P ops))) a hr hd h)
    rintro a' ⟨ρ',hr',h'⟩
    exact ih ρ' a' (fun o ho=>hl o (by simp [ho])) hr' h'
end
theorem wpQuiet_mono' {P:Program} {ops:Array Oper} {C:World→Prop} {K K':Act→Prop} (h:∀ a,K a→K' a):∀ (l:List Oper) (a:Act),wpQuiet P ops C K l a→wpQuiet P ops C K' l a
 | [],_,hh=>h _ hh
 | o :: l,a,hh=>by
   unfold wpQuiet at *
   split
   ·rename_i hw;rw [if_pos hw] at hh;exact Oper.quiet_mono (wpQuiet_mono' h l) hh
   ·rename_i hw;rw [if_neg hw] at hh;exact wpQuiet_mono' h l _ hh
def DT.cons (m:ML):DT→DT
 | .leaf l=>.leaf (m :: l)
 | .br l a b=>.br (m :: l) a b
 | .tail l p=>.br [m] (.tail l p) (.tail l p)
 | .inv l p=>.br [m] (.inv l p) (.inv l p)
def DT.leaves:DT→Nat
 | .leaf _=>1
 | .br _ a b=>a.leaves+b.leaves
 | .tail _ _=>1
 | .inv _ _=>1
def DT.fork (f:Nat→Option DT):List Nat→Option DT
 | []=>none
 | [i]=>f i
 | i :: r=>match f i,DT.fork f r with|some a,some b=>if a.leaves+b.leaves≤16 then some (.br [] a b) else none|_,_=>none
def buildT (P:Program) (ops:Array Oper):Nat→Array Bool→Option DT
 | 0,listed=>if (Region.ready .any ops listed).isEmpty then some (.leaf []) else none
 | fuel+1,listed =>
   if (Region.ready .any ops listed).isEmpty then some (.leaf []) else
   match (Region.ready .any ops listed).find? (fun i=>Region.free .any ops listed i && (match ops[i]? with|some o=>pureM (cm P o)|none=>false)) with
   | some i=>(match ops[i]? with|some o=>(buildT P ops fuel (listed.setIfInBounds i true)).map (DT.cons (cop P ops o))|none=>none)
   | none=>DT.fork (fun i=>match ops[i]? with|some o=>(buildT P ops fuel (listed.setIfInBounds i true)).map (DT.cons (cop P ops o))|none=>none) (Region.ready .any ops listed)
def quietM:MO→Bool
 | .call _ _=>true
 | m=>plainM m
def headN (P:Program) (ops:Array Oper):Nat:=(ops.toList.takeWhile fun o=>quietM (cm P o)).length
def tailOf (P:Program) (ops:Array Oper):Option DT :=
 if Region.lexTailB .any ops (headN P ops) then some (.tail ((ops.toList.take (headN P ops)).map (cop P ops)) ((ops.toList.drop (headN P ops)).map (cop P ops))) else none
def lateB (ops:Array Oper) (N x:Nat):Bool:=(List.range ops.size).all fun t=>decide (t≤N) || t == x || (List.range t).any fun j=>decide (N≤j) && !(j == x) && Region.waitsFor .any ops t j
def headBX (ops:Array Oper):Nat→Nat→Array Bool→Bool
 | 0,_,_=>true
 | f+1,k,listed=>(Region.ready .any ops listed).contains k && Region.free .any ops listed k && headBX ops f (k+1) (listed.setIfInBounds k true)
def plainN (P:Program) (ops:Array Oper):Nat:=(ops.toList.takeWhile fun o=>plainM (cm P o)).length
def isAlc (P:Program) (ops:Array Oper) (o:Oper):Bool:=match o.op,(cop P ops o).g,cm P o with
 | .alloc _,none,.alc _ _=>true
 | _,_,_=>false
def alcX (P:Program) (ops:Array Oper):Option Nat:=(List.range ops.size).find? fun i=>match ops[i]? with|some o=>isAlc P ops o|none=>false
def listN (m:Nat):Nat→Nat→Array Bool→Array Bool
 | 0,_,l=>l
 | f+1,k,l=>listN m f (k+1) (l.setIfInBounds k true)
def treeX (P:Program) (ops:Array Oper):Option DT :=
 match alcX P ops with
 | none=>none
 | some x=>match ops[x]? with
   | none=>none
   | some ox =>
     if Region.noSelect ops && isAlc P ops ox && decide (plainN P ops < x) && Region.sinkB .any ops (plainN P ops) && lateB ops (plainN P ops) x && headBX ops (plainN P ops) 0 (Array.replicate ops.size false) then
      match buildT P ops (ops.size - plainN P ops) (listN ops.size (plainN P ops) 0 (Array.replicate ops.size false)),buildT P ops (ops.size - plainN P ops - 1) ((listN ops.size (plainN P ops) 0 (Array.replicate ops.size false)).setIfInBounds x true) with
      | some t1,some t2=>some (.br ((ops.toList.take (plainN P ops)).map (cop P ops)) t1 (t2.cons (cop P ops ox)))
      | _,_=>none
     else none
def depsOf (o:Oper):List Nat:=(o.after.toList.filter fun e=>Region.binds .any e).map (·.on)
def treeOf (P:Program) (ops:Array Oper):Option DT :=
 if (ops.toList.all (fun o=>plainM (cm P o)) || !Region.noSelect ops) || decide (36 < ops.size) then none else
 match buildT P ops ops.size (Array.replicate ops.size false) with
 | some t=>if t.leaves≤8 then some t else match tailOf P ops with
   | some x=>some x
   | none=>if t.leaves≤16 then some t else none
 | none=>match tailOf P ops with
   | some x=>some x
   | none=>match treeX P ops with
     | some x=>some x
     | none=>if ops.toList.all (fun o=>quietM (cm P o)) then none else some (.inv (ops.toList.map (cop P ops)) (ops.toList.map depsOf))
def conv (P:Program) (n:Nat):Code→MC
 | .skip=>.skip
 | .region _ ops d=>if ops.toList.all (okOp n ops) && (!d || Region.lexB .any ops) then (if d then .drg (ops.toList.map (cop P ops)) (treeOf P ops) else .reg (ops.toList.map (cop P ops))) else .bad
 | .seq a b=>.seq (conv P n a) (conv P n b)
 | .cond c a b=>.cond c (conv P n a) (conv P n b)
 | .block id c=>.blk id (conv P n c)
 | .loop c=>.loop (conv P n c)
 | .exit id=>.exit id
 | .scope c=>.scp (conv P n c)
 | .label _=>.lab
 | .ret=>.ret
 | .rangeFunc g ps a b=>.rng g ps.toList (conv P n a) (conv P n b)
 | _=>.bad
inductive MI|c (m:MC)|b (id:Nat)|l (m:MC)|s
def Corr (P:Program) (n:Nat):List MI→List Item→Prop
 | [],[]=>True
 | .c m :: r,.code x :: k=>conv P n x=m∧Corr P n r k
 | .b i :: r,.inBlock j :: k=>i=j∧Corr P n r k
 | .l m :: r,.inLoop x :: k=>conv P n x=m∧Corr P n r k
 | .s :: r,.inScope _ :: k=>Corr P n r k
 | _,_=>False
def exitM (id:Nat):List MI→Option (List MI)
 | .b i :: r=>if i == id then some r else exitM id r
 | _ :: r=>exitM id r
 | []=>none
theorem exitM_corr {P:Program} {n id:Nat}:∀ (r:List MI) (k:List Item) (r':List MI),Corr P n r k→exitM id r=some r'→∃ k',exitTo id k=some k'∧Corr P n r' k':=by
 intro r
 induction r with
 | nil=>intro k r' _ h;simp [exitM] at h
 | cons x r ih =>
   intro k r' hc h
   cases k with
   | nil=>cases x<;>simp [Corr] at hc
   | cons y k =>
   cases x<;>cases y<;>simp only [Corr] at hc<;>simp only [exitM] at h
   ·obtain ⟨k',h1,h2⟩:=ih _ _ hc.2 h;exact ⟨k',by simp [exitTo,h1],h2⟩
   ·obtain ⟨rfl,hc⟩:=hc
    rename_i i
    by_cases e:i == id
    ·rw [if_pos e] at h;injection h with h;subst h;exact ⟨k,by simp [exitTo,e],hc⟩
    ·rw [if_neg e] at h;obtain ⟨k',h1,h2⟩:=ih _ _ hc h;exact ⟨k',by simp [exitTo,e,h1],h2⟩
   ·obtain ⟨k',h1,h2⟩:=ih _ _ hc.2 h;exact ⟨k',by simp [exitTo,h1],h2⟩
   ·obtain ⟨k',h1,h2⟩:=ih _ _ hc h;exact ⟨k',by simp [exitTo,h1],h2⟩
def G (P:Program) (fn:Func) (n:Nat) (r:List MI) (R:Value→World→Prop) (ρ:Fr) (w:World):Prop:=∀ k,Corr P n r k→Run P fn n k R ρ w
section
variable {P:Program} {fn:Func} {n:Nat} {r:List MI} {R:Value→World→Prop} {ρ:Fr} {w:World}
theorem G.mono {R':Value→World→Prop} (h:G P fn n r R ρ w) (hr:∀ v w,R v w→R' v w):G P fn n r R' ρ w:=fun k hk=>(h k hk).mono hr
theorem corr_c {m:MC} {r:List MI} {k:List Item} (h:Corr P n (.c m :: r) k):∃ x k',k=.code x :: k'∧conv P n x=m∧Corr P n r k':=by
 cases k with
 | nil=>simp [Corr] at h
 | cons y k=>cases y<;>simp only [Corr] at h;exact ⟨_,_,rfl,h.1,h.2⟩
theorem conv_reg {x:Code} {ops:List ML} (h:conv P n x=.reg ops):∃ id os,x=.region id os false∧os.toList.all (okOp n os)=true∧ops=os.toList.map (cop P os):=by
 cases x<;>simp only [conv] at h<;>try (simp at h;done)
 rename_i id os d
 split at h
 ·rename_i hb
  cases d
  ·simp at h hb;exact ⟨id,os,rfl,by simpa using hb,h.symm⟩
  ·simp at h
 ·simp at h
theorem conv_drg {x:Code} {ops:List ML} {t:Option DT} (h:conv P n x=.drg ops t):∃ id os,x=.region id os true∧os.toList.all (okOp n os)=true∧Region.lexB .any os=true∧ops=os.toList.map (cop P os)∧t=treeOf P os:=by
 cases x<;>simp only [conv] at h<;>try (simp at h;done)
 rename_i id os d
 split at h
 ·rename_i hb
  cases d
  ·simp at h
  ·simp only [if_true,MC.drg.injEq,Bool.not_true,Bool.false_or,Bool.and_eq_true] at h hb;exact ⟨id,os,rfl,hb.1,hb.2,h.1.symm,h.2.symm⟩
 ·simp at h
theorem G.skip (h:G P fn n r R ρ w):G P fn n (.c .skip :: r) R ρ w:=fun k hk=>by
 obtain ⟨x,k',rfl,hx,hk'⟩:=corr_c hk
 cases x<;>simp only [conv] at hx<;>try (simp at hx;done)
 ·exact Run.skip (h k' hk')
 ·split at hx<;>try (simp at hx;done)
  split at hx<;>simp at hx
theorem G.seq {a b:MC} (h:G P fn n (.c a :: .c b :: r) R ρ w):G P fn n (.c (.seq a b) :: r) R ρ w:=fun k hk=>by
 obtain ⟨x,k',rfl,hx,hk'⟩:=corr_c hk
 cases x<;>simp only [conv] at hx<;>try (simp at hx;done)
 ·split at hx<;>try (simp at hx;done)
  split at hx<;>simp at hx
 ·injection hx with h1 h2;exact Run.seq (h _ ⟨h1,h2,hk'⟩)
theorem G.blk {id:Nat} {c:MC} (h:G P fn n (.c c :: .b id :: r) R ρ w):G P fn n (.c (.blk id c) :: r) R ρ w:=fun k hk=>by
 obtain ⟨x,k',rfl,hx,hk'⟩:=corr_c hk
 cases x<;>simp only [conv] at hx<;>try (simp at hx;done)
 ·split at hx<;>try (simp at hx;done)
  split at hx<;>simp at hx
 ·injection hx with h1 h2;subst h1;exact Run.block (h _ ⟨h2,rfl,hk'⟩)
theorem G.endb {id:Nat} (h:G P fn n r R ρ w):G P fn n (.b id :: r) R ρ w:=fun k hk=>by
 cases k with
 | nil=>simp [Corr] at hk
 | cons y k=>cases y<;>simp only [Corr] at hk;exact Run.inBlock (h _ hk.2)
theorem G.lab (h:G P fn n r R ρ w):G P fn n (.c .lab :: r) R ρ w:=fun k hk=>by
 obtain ⟨x,k',rfl,hx,hk'⟩:=corr_c hk
 cases x<;>simp only [conv] at hx<;>try (simp at hx;done)
 ·split at hx<;>try (simp at hx;done)
  split at hx<;>simp at hx
 ·exact Run.label (h k' hk')
theorem G.scp {c:MC} (h:G P fn n (.c c :: .s :: r) R ρ w):G P fn n (.c (.scp c) :: r) R ρ w:=fun k hk=>by
 obtain ⟨x,k',rfl,hx,hk'⟩:=corr_c hk
 cases x<;>simp only [conv] at hx<;>try (simp at hx;done)
 ·split at hx<;>try (simp at hx;done)
  split at hx<;>simp at hx
 ·injection hx with h1;exact Run.scope (h _ ⟨h1,hk'⟩)
theorem G.ends (h:G P fn n r R ρ w):G P fn n (.s :: r) R ρ w:=fun k hk=>by
 cases k with
 | nil=>simp [Corr] at hk
 | cons y k=>cases y<;>simp only [Corr] at hk;exact Run.inScope (h _ hk)
theorem G.exit {id:Nat} {r':List MI} (he:exitM id r=some r') (h:G P fn n r' R ρ w):G P fn n (.c (.exit id) :: r) R ρ w:=fun k hk=>by
 obtain ⟨x,k',rfl,hx,hk'⟩:=corr_c hk
 cases x<;>simp only [conv] at hx<;>try (simp at hx;done)
 ·split at hx<;>try (simp at hx;done)
  split at hx<;>simp at hx
 ·injection hx with h1
  subst h1
  obtain ⟨k'',h1,h2⟩:=exitM_corr _ _ _ hk' he
  exact Run.exit h1 (h _ h2)
def adm1:List MI→Option (List MI)
 | .c (.seq a b) :: r=>some (.c a :: .c b :: r)
 | .c (.blk i c) :: r=>some (.c c :: .b i :: r)
 | .b _ :: r=>some r
 | .c .skip :: r=>some r
 | .c .lab :: r=>some r
 | .c (.scp c) :: r=>some (.c c :: .s :: r)
 | .s :: r=>some r
 | .c (.exit i) :: r=>exitM i r
 | _=>none
theorem G.a {r':List MI} (e:adm1 r=some r') (h:G P fn n r' R ρ w):G P fn n r R ρ w:=by
 unfold adm1 at e
 split at e
 ·injection e with e;subst e;exact G.seq h
 ·injection e with e;subst e;exact G.blk h
 ·injection e with e;subst e;exact G.endb h
 ·injection e with e;subst e;exact G.skip h
 ·injection e with e;subst e;exact G.lab h
 ·injection e with e;subst e;exact G.scp h
 ·injection e with e;subst e;exact G.ends h
 ·exact G.exit e h
 ·simp at e
theorem G.cond {c:Operand} {a b:MC} {t:Bool} (hc:ev ρ c=.bool t) (ht:t=true→G P fn n (.c a :: r) R ρ w) (hf:t=false→G P fn n (.c b :: r) R ρ w):G P fn n (.c (.cond c a b) :: r) R ρ w:=fun k hk=>by
 obtain ⟨x,k',rfl,hx,hk'⟩:=corr_c hk
 cases x<;>simp only [conv] at hx<;>try (simp at hx;done)
 ·split at hx<;>try (simp at hx;done)
  split at hx<;>simp at hx
 ·injection hx with h1 h2 h3
  subst h1
  exact Run.cond hc (fun e=>ht e _ ⟨h2,hk'⟩) (fun e=>hf e _ ⟨h3,hk'⟩)
theorem G.loop1 {c:MC} (h:G P fn n (.c c :: .l c :: r) R ρ w):G P fn n (.l c :: r) R ρ w:=fun k hk=>by
 cases k with
 | nil=>simp [Corr] at hk
 | cons y k =>
   cases y<;>simp only [Corr] at hk
   rename_i y
   exact Run.step (k':=.code y :: .inLoop y :: k) (fun _ _ _ _=>step_inLoop) (h _ ⟨hk.1,hk⟩)
theorem G.loop0 {c:MC} (h:G P fn n (.c c :: .l c :: r) R ρ w):G P fn n (.c (.loop c) :: r) R ρ w:=fun k hk=>by
 obtain ⟨x,k',rfl,hx,hk'⟩:=corr_c hk
 cases x<;>simp only [conv] at hx<;>try (simp at hx;done)
 ·split at hx<;>try (simp at hx;done)
  split at hx<;>simp at hx
 ·rename_i y
  have hy:conv P n y=c:=by injection hx
  exact Run.step (k':=.code y :: .inLoop y :: k') (fun _ _ _ _=>step_loop) (h _ ⟨hy,hy,hk'⟩)
theorem G.loop {c:MC} (I:Fr→World→Prop) (μ:Fr→World→Nat) (h0:I ρ w)
 (hr:∀ u w',I u w'→(∀ ρ' w'',I ρ' w''→μ ρ' w'' < μ u w'→G P fn n (.l c :: r) R ρ' w'')→G P fn n (.c c :: .l c :: r) R u w') :
 G P fn n (.c (.loop c) :: r) R ρ w:=by
 have key:∀ m ρ' w',I ρ' w'→μ ρ' w' < m→G P fn n (.l c :: r) R ρ' w':=by
  intro m
  induction m with
  | zero=>intro _ _ _ h;omega
  | succ m ih =>
    intro ρ' w' hI hm
    exact G.loop1 (hr ρ' w' hI (fun ρ'' w'' hI' hlt=>ih ρ'' w'' hI' zo))
 exact G.loop0 (hr ρ w h0 (fun ρ' w'' hI hlt=>key _ ρ' w'' hI hlt))
theorem G.reg {ops:List ML} (h:∀ K:Fr→World→Prop,(∀ ρ w,G P fn n r R ρ w→K ρ w)→O P K ops ρ w):G P fn n (.c (.reg ops) :: r) R ρ w:=fun k hk=>by
 obtain ⟨x,k',rfl,hx,hk'⟩:=corr_c hk
 obtain ⟨id,os,rfl,hall,rfl⟩:=conv_reg hx
 refine Run.region_wp fun a hr=>wp_region_list ?_
 exact O_wpList (n:=n) (ops:=os) (K:=fun ρ w=>Run P fn n k' R ρ w) os.toList ρ w a (fun o ho=>List.all_eq_true.1 hall o ho) hr (h _ fun _ _ h=>h k' hk')
theorem G.drg {ops:List ML} {t:Option DT} (hm:P.follows .mixedOrders=true) (h:∀ K:Fr→Prop,(∀ ρ,(∀ w',Ext w w'→G P fn n r R ρ w')→K ρ)→Q P K w ops ρ):G P fn n (.c (.drg ops t) :: r) R ρ w:=fun k hk=>by
 obtain ⟨x,k',rfl,hx,hk'⟩:=corr_c hk
 obtain ⟨id,os,rfl,hall,hlex,rfl,_⟩:=conv_drg hx
 refine Run.region_wp fun a hr=>wp_region_quiet (C:=Ext w) hm hlex ((Ext.refl w).drew) ?_
 have:=Q_wpQuiet (n:=n) (w:=w) (ops:=os) (K:=fun ρ=>∀ w',Ext w w'→Run P fn n k' R ρ w') os.toList ρ a (fun o ho=>List.all_eq_true.1 hall o ho) hr (h _ fun _ h w' hw'=>h w' hw' k' hk')
 refine wpQuiet_mono' ?_ _ _ this
 rintro a' ⟨ρ',h1,h2⟩ w' hw'
 exact ⟨rfl,ρ',h1,h2 w' hw'⟩
theorem ret_of {v:Value} (hv:∀ a,Rel [] n a ρ→(results fn a.tmps).run P w=.ok v w) (h:R v w):G P fn n (.c .ret :: r) R ρ w:=fun k hk=>by
 obtain ⟨x,k',rfl,hx,hk'⟩:=corr_c hk
 cases x<;>simp only [conv] at hx<;>try (simp at hx;done)
 ·split at hx<;>try (simp at hx;done)
  split at hx<;>simp at hx
 ·exact Run.ret hv h
theorem done_of {v:Value} (hv:∀ a,Rel [] n a ρ→(results fn a.tmps).run P w=.ok v w) (h:R v w):G P fn n [] R ρ w:=fun k hk=>by
 cases k with
 | nil=>exact Run.done hv h
 | cons y k=>simp [Corr] at hk
theorem G.ret0 (hf:fn.results=#[]) (h:R (.tuple #[]) w):G P fn n (.c .ret :: r) R ρ w:=ret_of (fun _ _=>results_none hf _ _ _) h
theorem G.done0 (hf:fn.results=#[]) (h:R (.tuple #[]) w):G P fn n [] R ρ w:=done_of (fun _ _=>results_none hf _ _ _) h
theorem G.enter {f:FuncId} {m:MC} {c:Code} {args:List Value} (hf:P.funcs[f]?=some fn) (hb:fn.body=some c) (hn:fn.ntmps=n) (hle:args.length≤n) (hm:conv P n c=m) (h:G P fn n [.c m] R (frL 0 args) w):Ret P f args.toArray w R :=
 Ret.of_run n hf hb hn hle (by rw [argFr_eq];exact h _ ⟨hm,trivial⟩)
end
end Go.Proofs.YtllanbmpacgigaaGreatDoor
