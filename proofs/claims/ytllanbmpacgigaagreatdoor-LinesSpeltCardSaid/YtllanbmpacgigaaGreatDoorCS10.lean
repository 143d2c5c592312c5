/- Texts of the proof, joined. -/
import Derived.Test.YtllanbmpacgigaaGreatDoorCR10
import Derived.Test.YtllanbmpacgigaaGreatDoorCB06
namespace Go.Proofs.YtllanbmpacgigaaGreatDoor
set_option linter.unusedSimpArgs false
set_option linter.unusedVariables false
def Full (q:Int) (t:Str) (q':Int):Prop:=runM q t=(q',t.length)
theorem Full.nil {q:Int}:Full q [] q:=rfl
theorem Full.cons {q s q':Int} {b:UInt8} {t:Str} (h:stepM q b.toNat=(s,true)) (hf:Full s t q'):Full q (b :: t) q':=by
  unfold Full at *
  rw [run_y h,hf];rfl
theorem Full.un {q q':Int} {b:UInt8} {t:Str} (h:Full q (b :: t) q'):∃ s,stepM q b.toNat=(s,true)∧Full s t q':=by
  unfold Full at *
  cases hs:stepM q b.toNat with
  | mk s ok =>
    cases ok
    · rw [run_n hs] at h
      simp at h
    · rw [run_y hs] at h
      injection h with h1 h2
      refine ⟨s,rfl,?_⟩
      rw [←h1]
      simp only [List.length_cons] at h2
      exact Prod.ext rfl (by simp only;omega)
theorem Full.app {q q1 q2:Int} {b:Str}:∀ {a:Str},Full q a q1→Full q1 b q2→Full q (a++b) q2:=by
  intro a
  induction a generalizing q with
  | nil => intro h1 h2;have:q1=q:=by unfold Full at h1;rw [run_nil] at h1;injection h1 with h _;exact h.symm
           subst this;exact h2
  | cons c a ih =>
    intro h1 h2
    obtain ⟨s,e,h3⟩:=h1.un
    exact Full.cons e (ih h3 h2)
end Go.Proofs.YtllanbmpacgigaaGreatDoor
namespace Go.Proofs.YtllanbmpacgigaaGreatDoor
set_option linter.unusedSimpArgs false
set_option linter.unusedVariables false
section
variable {d:Dl}
structure SpanAt (d:Dl) (q st:Int) (m:Mk) (p:Nat) (t:Str) (SP:List (Nat×Nat)) (i:Nat) (a b:Str) (m2:Mk) (fr2 to2:Nat):Prop where
  cut:t=a++b
  sp:spW d wideL 0 0 m2 fr2 to2 (p+a.length) b=SP.drop i
  rc:m2.rc=[]
  fl:m2.fl=[]
  bg:∃ c b',b=c :: b'∧(scM d 0 c).1.b=true
  lf:(a=[]∧st=0)∨∃ a' z,a=a'++[z]∧(z.toNat:Int)=10
  run:∀ b2,wrun d wideL q st m p (a++b2)=(wrun d wideL 0 0 m2 (p+a.length) b2).pre ((wrun d wideL q st m p t).rs.take i)
theorem SpanAt.cons {q st:Int} {m:Mk} {p:Nat} {b:UInt8} {t:Str} {x:Int×Int×Mk×Option (List Str)} {SP:List (Nat×Nat)} {i:Nat} {a c:Str} {m2:Mk} {fr2 to2:Nat} (he:stepW d wideL q st m b=.ok x)
    (h:SpanAt d x.1 x.2.1 x.2.2.1 (p+1) t SP i a c m2 fr2 to2) (hz:a=[]→x.2.1=0→(b.toNat:Int)=10) {SP':List (Nat×Nat)} {n:Nat} (hn:n=(oneR x.2.2.2 p).length) (hSP:SP'.drop (n+i)=SP.drop i) :
    SpanAt d q st m p (b :: t) SP' (n+i) (b :: a) c m2 fr2 to2:=by
  obtain ⟨h1,h2,h3,h4,h5,h6,h7⟩:=h
  have e1:p+(b :: a).length=p+1+a.length:=by simp only [List.length_cons];omega
  refine ⟨by rw [h1];rfl,by rw [e1,h2,hSP],h3,h4,h5,?_,fun b2=>?_⟩
  · rcases h6 with ⟨ha,hst⟩|⟨a',z,ha,hz'⟩
    · subst ha;exact .inr ⟨[],b,rfl,hz rfl hst⟩
    · exact .inr ⟨b :: a',z,by rw [ha];rfl,hz'⟩
  · rw [e1,List.cons_append,wrun_cons,he,wrun_cons,he]
    simp only
    rw [h7 b2,pre_pre]
    congr 1
    simp only [Rs.pre]
    rw [hn,List.take_length_add_append]
end
end Go.Proofs.YtllanbmpacgigaaGreatDoor
namespace Go.Proofs.YtllanbmpacgigaaGreatDoor
set_option linter.unusedSimpArgs false
set_option linter.unusedVariables false
end Go.Proofs.YtllanbmpacgigaaGreatDoor
namespace Go.Proofs.YtllanbmpacgigaaGreatDoor
set_option linter.unusedSimpArgs false
set_option linter.unusedVariables false
end Go.Proofs.YtllanbmpacgigaaGreatDoor
namespace Go.Proofs.YtllanbmpacgigaaGreatDoor
set_option linter.unusedSimpArgs false
set_option linter.unusedVariables false
open Go.RowKit
end Go.Proofs.YtllanbmpacgigaaGreatDoor
namespace Go.Proofs.YtllanbmpacgigaaGreatDoor
set_option linter.unusedSimpArgs false
set_option linter.unusedVariables false
open Go.RowKit
def wtS (r:List Str):Nat:=(r.map fun f=>f.length+1).sum
theorem wtS_app (a b:List Str):wtS (a++b)=wtS a+wtS b:=by simp [wtS]
theorem wtS_one (x:Str):wtS [x]=x.length+1:=by simp [wtS]
def WBm (m:Mk) (n:Nat):Prop:=m.fl.length+wtS m.rc≤n
theorem WBm.put {m:Mk} {n:Nat} (h:WBm m n):WBm m.put (n+1):=by
  unfold WBm at *
  simp only [Mk.put,wtS_app,wtS_one,List.length_nil]
  omega
end Go.Proofs.YtllanbmpacgigaaGreatDoor
