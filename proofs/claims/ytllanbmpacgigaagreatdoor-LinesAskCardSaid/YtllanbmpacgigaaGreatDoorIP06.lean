/- Texts of the proof, joined. -/
import Derived.Test.YtllanbmpacgigaaGreatDoorIPa
namespace Go.Proofs.YtllanbmpacgigaaGreatDoor
set_option linter.unusedSimpArgs false
set_option linter.unusedVariables false
structure Dl where
 dl:Int
 q:Int
 e:Int
structure Lm where
 F:Int
 N:Int
 R:Int
 U:Bool
structure Ev where
 b:Bool:=false
 a:Bool:=false
 f:Bool:=false
 l:Bool:=false
 r:Bool:=false
 c:UInt8:=0
def wrongE (d:Dl) (b:Int):Bool:=(b == 13 && d.e == 1) || (b == 10 && d.e == 2)
def startM (d:Dl) (b:UInt8):Ev×Int×Int :=
 if wrongE d b.toNat=true then ({},0,6) else if (b.toNat:Int)=d.q then ({b:=true},3,0) else if (b.toNat:Int)=d.dl then ({b:=true,f:=true},1,0)
 else if (b.toNat:Int)=13 then ({},6,0) else if (b.toNat:Int)=10 then ({},0,0) else ({b:=true,a:=true,c:=b},2,0)
def inM (d:Dl) (st:Int) (b:UInt8):Ev×Int×Int :=
 if wrongE d b.toNat=true then ({},0,6) else if (b.toNat:Int)=d.q then (if st=1 then ({},3,0) else if st=4 then ({a:=true,c:=b},3,0) else ({},0,4))
 else if (b.toNat:Int)=d.dl then ({f:=true},1,0) else if (b.toNat:Int)=13 then ({l:=true},5,0) else if (b.toNat:Int)=10 then ({l:=true,r:=true},0,0)
 else if st=4 then ({},0,5) else ({a:=true,c:=b},2,0)
def scM (d:Dl) (st:Int) (b:UInt8):Ev×Int×Int :=
 if st=0 then startM d b else if st=1∨st=2∨st=4 then inM d st b else if st=3 then (if (b.toNat:Int)=d.q then ({},4,0) else ({a:=true,c:=b},3,0))
 else if st=5∨st=6 then (if (b.toNat:Int)=10 then ({r:=st == 5},0,0) else ({},0,6)) else ({},0,0)
def closeM (st:Int):Ev×Int :=
 if st=1∨st=2∨st=4 then ({l:=true,r:=true},0) else if st=3 then ({},11) else if st=5∨st=6 then ({},6) else ({},0)
structure Mk where
 fl:List UInt8:=[]
 rc:List (List UInt8):=[]
 bg:Nat:=0
 ct:Nat:=0
 wd:Nat:=0
def Mk.put (m:Mk):Mk:={ m with rc:=m.rc++[m.fl],fl:=[] }
def Mk.strict (l:Lm) (m:Mk):Bool:=l.U && decide (0 < m.ct)
def gBegin (l:Lm) (b:Bool) (m:Mk):Except Int Mk:=if b=true then (if l.R≤m.bg then .error 9 else .ok { m with bg:=m.bg+1 }) else .ok m
def gAdd (l:Lm) (a:Bool) (c:UInt8) (m:Mk):Except Int Mk:=if a=true then (if l.F≤m.fl.length then .error 7 else .ok { m with fl:=m.fl++[c] }) else .ok m
def gField (l:Lm) (f:Bool) (m:Mk):Except Int Mk:=if f=true then (if l.N≤m.put.rc.length then .error 8 else if m.strict l=true∧m.put.rc.length=m.wd then .error 10 else .ok m.put) else .ok m
def gLine (l:Lm) (f:Bool) (m:Mk):Except Int Mk:=if f=true then (if m.strict l=true∧m.put.rc.length≠m.wd then .error 10 else .ok m.put) else .ok m
def gather (l:Lm) (m:Mk) (e:Ev):Except Int Mk :=
 match gBegin l e.b m with
 | .error k=>.error k
 | .ok m=>match gAdd l e.a e.c m with
   | .error k=>.error k
   | .ok m=>match gField l e.f m with
     | .error k=>.error k
     | .ok m=>gLine l e.l m
def Mk.out (m:Mk):Mk:={ m with rc:=[],wd:=if m.ct=0 then m.rc.length else m.wd,ct:=m.ct+1 }
def takeM (l:Lm) (m:Mk) (e:Ev):Except Int (Mk×Option (List (List UInt8))) :=
 match gather l m e with
 | .error k=>.error k
 | .ok m=>if e.r=true then .ok (m.out,some m.rc) else .ok (m,none)
structure Rs where
 rs:List (List (List UInt8)×Nat):=[]
 k:Int:=0
 a:Nat:=0
def Rs.pre (acc:List (List (List UInt8)×Nat)) (R:Rs):Rs:={ R with rs:=acc++R.rs }
theorem pre_pre (a b:List (List (List UInt8)×Nat)) (R:Rs):(R.pre b).pre a=R.pre (a++b):=by simp [Rs.pre]
def stepR (d:Dl) (l:Lm) (st:Int) (m:Mk) (b:UInt8):Except Int (Int×Mk×Option (List (List UInt8))) :=
 if (scM d st b).2.2≠0 then .error (scM d st b).2.2 else match takeM l m (scM d st b).1 with
  | .error k=>.error k
  | .ok x=>.ok ((scM d st b).2.1,x.1,x.2)
def endR (l:Lm) (st:Int) (m:Mk):Except Int (Option (List (List UInt8))) :=
 if (closeM st).2≠0 then .error (closeM st).2 else match takeM l m (closeM st).1 with
  | .error k=>.error k
  | .ok x=>.ok x.2
def oneR (r:Option (List (List UInt8))) (p:Nat):List (List (List UInt8)×Nat):=match r with
 | none=>[]
 | some r=>[(r,p)]
def wrun (d:Dl) (l:Lm) (q:Int) (st:Int) (m:Mk) (p:Nat):List UInt8→Rs
 | []=>if q≠0 then ⟨[],12,p⟩ else match endR l st m with
   | .error k=>⟨[],k,p⟩
   | .ok r=>⟨oneR r p,0,0⟩
 | b :: t=>if (stepM q b.toNat).2=false then ⟨[],3,p⟩ else match stepR d l st m b with
   | .error k=>⟨[],k,p⟩
   | .ok x=>(wrun d l (stepM q b.toNat).1 x.1 x.2.1 (p+1) t).pre (oneR x.2.2 p)
theorem sc_err (d:Dl) (st:Int) (b:UInt8):(scM d st b).2.2=0∨0 < (scM d st b).2.2:=by
 unfold scM startM inM
 repeat' split
 all_goals simp
theorem gb_err {l:Lm} {b:Bool} {m:Mk} {k:Int} (h:gBegin l b m=.error k):k=9:=by
 unfold gBegin at h
 split at h
 ·split at h
  ·injection h with h;exact h.symm
  ·simp at h
 ·simp at h
theorem ga_err {l:Lm} {b:Bool} {c:UInt8} {m:Mk} {k:Int} (h:gAdd l b c m=.error k):k=7:=by
 unfold gAdd at h
 split at h
 ·split at h
  ·injection h with h;exact h.symm
  ·simp at h
 ·simp at h
theorem gf_err {l:Lm} {b:Bool} {m:Mk} {k:Int} (h:gField l b m=.error k):k=8∨k=10:=by
 unfold gField at h
 split at h
 ·split at h
  ·injection h with h;exact .inl h.symm
  ·split at h
   ·injection h with h;exact .inr h.symm
   ·simp at h
 ·simp at h
theorem gl_err {l:Lm} {b:Bool} {m:Mk} {k:Int} (h:gLine l b m=.error k):k=10:=by
 unfold gLine at h
 split at h
 ·split at h
  ·injection h with h;exact h.symm
  ·simp at h
 ·simp at h
theorem gather_err {l:Lm} {m:Mk} {e:Ev} {k:Int} (h:gather l m e=.error k):0 < k:=by
 unfold gather at h
 split at h
 ·rename_i h1;injection h with h;subst h;rw [gb_err h1];decide
 ·split at h
  ·rename_i h1;injection h with h;subst h;rw [ga_err h1];decide
  ·split at h
   ·rename_i h1;injection h with h;subst h;rcases gf_err h1 with h2|h2<;>rw [h2]<;>decide
   ·rw [gl_err h];decide
theorem take_err {l:Lm} {m:Mk} {e:Ev} {k:Int} (h:takeM l m e=.error k):0 < k:=by
 unfold takeM at h
 split at h
 ·rename_i h2;simp at h;subst h;exact gather_err h2
 ·split at h<;>simp at h
theorem step_err {d:Dl} {l:Lm} {st:Int} {m:Mk} {b:UInt8} {k:Int} (h:stepR d l st m b=.error k):0 < k:=by
 unfold stepR at h
 split at h
 ·simp at h;have:=sc_err d st b;omega
 ·split at h
  ·rename_i h2;simp at h;subst h;exact take_err h2
  ·simp at h
theorem close_err (st:Int):(closeM st).2=0∨0 < (closeM st).2:=by
 unfold closeM
 repeat' split
 all_goals simp
theorem end_err {l:Lm} {st:Int} {m:Mk} {k:Int} (h:endR l st m=.error k):0 < k:=by
 unfold endR at h
 split at h
 ·simp at h;have:=close_err st;omega
 ·split at h
  ·rename_i h2;simp at h;subst h;exact take_err h2
  ·simp at h
theorem one_end {r:Option (List (List UInt8))} {p:Nat}:∀ x∈oneR r p,x.2=p:=by
 intro x hx
 cases r<;>simp [oneR] at hx
 subst hx;rfl
end Go.Proofs.YtllanbmpacgigaaGreatDoor
