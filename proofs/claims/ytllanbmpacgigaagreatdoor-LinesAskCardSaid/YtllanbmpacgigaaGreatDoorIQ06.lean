/- Texts of the proof, joined. -/
import Derived.Test.YtllanbmpacgigaaGreatDoorIP06
namespace Go.Proofs.YtllanbmpacgigaaGreatDoor
set_option linter.unusedSimpArgs false
set_option linter.unusedVariables false
structure Rt (d:Dl):Prop where
 q13:¬ d.q=13
 q10:¬ d.q=10
 d13:¬ d.dl=13
 d10:¬ d.dl=10
 dq:¬ d.dl=d.q
section
variable {d:Dl} {l:Lm} {m:Mk} {b:UInt8} {st:Int}
theorem wrongE_f (h13:¬ (b.toNat:Int)=13) (h10:¬ (b.toNat:Int)=10):wrongE d b.toNat=false:=by
 unfold wrongE;simp [h13,h10]
theorem wrongE_13 (h:(b.toNat:Int)=13):wrongE d b.toNat=decide (d.e=1):=by
 unfold wrongE;rw [h];by_cases e:d.e=1<;>simp [e]
theorem wrongE_10 (h:(b.toNat:Int)=10):wrongE d b.toNat=decide (d.e=2):=by
 unfold wrongE;rw [h];by_cases e:d.e=2<;>simp [e]
theorem stepR_of {e:Ev} {s:Int} (h:scM d st b=(e,s,0)):stepR d l st m b=match takeM l m e with
 | .error k=>.error k
 | .ok x=>.ok (s,x.1,x.2):=by
 unfold stepR;rw [h,if_neg (by simp)];rfl
theorem stepR_er {e:Ev} {s k:Int} (h:scM d st b=(e,s,k)) (hk:k≠0):stepR d l st m b=.error k:=by
 unfold stepR;rw [h,if_pos hk]
theorem take_none:takeM l m {}=.ok (m,none):=rfl
theorem take_b:takeM l m { b:=true }=if l.R≤m.bg then .error 9 else .ok ({ m with bg:=m.bg+1 },none):=by
 by_cases h:l.R≤m.bg<;>simp [takeM,gather,gBegin,gAdd,gField,gLine,h]
theorem take_a (c:UInt8):takeM l m { a:=true,c:=c }=if l.F≤m.fl.length then .error 7 else .ok ({ m with fl:=m.fl++[c] },none):=by
 by_cases h:l.F≤m.fl.length<;>simp [takeM,gather,gBegin,gAdd,gField,gLine,h]
theorem take_f:takeM l m { f:=true }=if l.N≤(m.rc.length+1:Nat) then .error 8 else if m.strict l=true∧m.rc.length+1=m.wd then .error 10 else .ok (m.put,none):=by
 have e:m.put.rc.length=m.rc.length+1:=by simp [Mk.put]
 have hg:gather l m { f:=true }=gField l true m:=by
  simp only [gather,gBegin,gAdd,if_false,Bool.false_eq_true]
  cases gField l true m<;>rfl
 unfold takeM
 rw [hg]
 unfold gField
 rw [if_pos rfl,e]
 by_cases h:l.N≤((m.rc.length+1:Nat):Int)
 ·rw [if_pos h,if_pos h]
 ·rw [if_neg h,if_neg h]
  by_cases h2:m.strict l=true∧m.rc.length+1=m.wd
  ·rw [if_pos h2,if_pos h2]
  ·rw [if_neg h2,if_neg h2];rfl
theorem take_l:takeM l m { l:=true }=if m.strict l=true∧m.rc.length+1≠m.wd then .error 10 else .ok (m.put,none):=by
 have e:m.put.rc.length=m.rc.length+1:=by simp [Mk.put]
 have hg:gather l m { l:=true }=gLine l true m:=rfl
 unfold takeM
 rw [hg]
 unfold gLine
 rw [if_pos rfl,e]
 by_cases h2:m.strict l=true∧m.rc.length+1≠m.wd
 ·rw [if_pos h2,if_pos h2]
 ·rw [if_neg h2,if_neg h2];rfl
theorem take_lr:takeM l m { l:=true,r:=true }=if m.strict l=true∧m.rc.length+1≠m.wd then .error 10 else .ok (m.put.out,some (m.rc++[m.fl])):=by
 have e:m.put.rc.length=m.rc.length+1:=by simp [Mk.put]
 have hg:gather l m { l:=true,r:=true }=gLine l true m:=rfl
 unfold takeM
 rw [hg]
 unfold gLine
 rw [if_pos rfl,e]
 by_cases h2:m.strict l=true∧m.rc.length+1≠m.wd
 ·rw [if_pos h2,if_pos h2]
 ·rw [if_neg h2,if_neg h2];rfl
theorem take_r:takeM l m { r:=true }=.ok (m.out,some m.rc):=rfl
theorem s3q (h:(b.toNat:Int)=d.q):stepR d l 3 m b=.ok (4,m,none):=by
 rw [stepR_of (e:={}) (s:=4) (by simp [scM,h]),take_none]
theorem s3x (h:¬ (b.toNat:Int)=d.q):stepR d l 3 m b=if l.F≤m.fl.length then .error 7 else .ok (3,{ m with fl:=m.fl++[b] },none):=by
 rw [stepR_of (e:={ a:=true,c:=b }) (s:=3) (by simp [scM,h]),take_a]
 by_cases hF:l.F≤(m.fl.length:Int)<;>simp only [hF,if_true,if_false]
theorem s4q (hr:Rt d) (h:(b.toNat:Int)=d.q):stepR d l 4 m b=if l.F≤m.fl.length then .error 7 else .ok (3,{ m with fl:=m.fl++[b] },none):=by
 have hw:=wrongE_f (d:=d) (b:=b) (by rw [h];exact hr.q13) (by rw [h];exact hr.q10)
 rw [h] at hw
 rw [stepR_of (e:={ a:=true,c:=b }) (s:=3) (by simp [scM,inM,hw,h]),take_a]
 by_cases hF:l.F≤(m.fl.length:Int)<;>simp only [hF,if_true,if_false]
theorem s4b (h:¬ (b.toNat:Int)=d.q) (h1:¬ (b.toNat:Int)=d.dl) (h2:¬ (b.toNat:Int)=13) (h3:¬ (b.toNat:Int)=10):stepR d l 4 m b=.error 5:=by
 have hw:=wrongE_f (d:=d) h2 h3
 exact stepR_er (e:={}) (s:=0) (by simp [scM,inM,hw,h,h1,h2,h3]) (by decide)
theorem s2q (hr:Rt d) (h:(b.toNat:Int)=d.q):stepR d l 2 m b=.error 4:=by
 have hw:=wrongE_f (d:=d) (b:=b) (by rw [h];exact hr.q13) (by rw [h];exact hr.q10)
 rw [h] at hw
 exact stepR_er (e:={}) (s:=0) (by simp [scM,inM,hw,h]) (by decide)
theorem s1q (hr:Rt d) (h:(b.toNat:Int)=d.q):stepR d l 1 m b=.ok (3,m,none):=by
 have hw:=wrongE_f (d:=d) (b:=b) (by rw [h];exact hr.q13) (by rw [h];exact hr.q10)
 rw [h] at hw
 rw [stepR_of (e:={}) (s:=3) (by simp [scM,inM,hw,h]),take_none]
theorem s12x (hs:st=1∨st=2) (h:¬ (b.toNat:Int)=d.q) (h1:¬ (b.toNat:Int)=d.dl) (h2:¬ (b.toNat:Int)=13) (h3:¬ (b.toNat:Int)=10) :
 stepR d l st m b=if l.F≤m.fl.length then .error 7 else .ok (2,{ m with fl:=m.fl++[b] },none):=by
 have hw:=wrongE_f (d:=d) h2 h3
 rw [stepR_of (e:={ a:=true,c:=b }) (s:=2) (by rcases hs with rfl|rfl<;>simp [scM,inM,hw,h,h1,h2,h3]),take_a]
 by_cases hF:l.F≤(m.fl.length:Int)<;>simp only [hF,if_true,if_false]
theorem s0b (h2:¬ (b.toNat:Int)=13) (h3:¬ (b.toNat:Int)=10):stepR d l 0 m b=if l.R≤m.bg then .error 9 else stepR d l 1 { m with bg:=m.bg+1 } b:=by
 have hw:=wrongE_f (d:=d) h2 h3
 by_cases hR:l.R≤m.bg
 ·rw [if_pos hR]
  by_cases h:(b.toNat:Int)=d.q
  ·rw [h] at hw
   rw [stepR_of (e:={ b:=true }) (s:=3) (by simp [scM,startM,hw,h]),take_b,if_pos hR]
  ·by_cases h1:(b.toNat:Int)=d.dl
   ·rw [h1] at hw h
    rw [stepR_of (e:={ b:=true,f:=true }) (s:=1) (by simp [scM,startM,hw,h,h1])]
    simp [takeM,gather,gBegin,hR]
   ·rw [stepR_of (e:={ b:=true,a:=true,c:=b }) (s:=2) (by simp [scM,startM,hw,h,h1,h2,h3])]
    simp [takeM,gather,gBegin,hR]
 ·rw [if_neg hR]
  by_cases h:(b.toNat:Int)=d.q
  ·rw [h] at hw
   rw [stepR_of (e:={ b:=true }) (s:=3) (by simp [scM,startM,hw,h]),stepR_of (e:={}) (s:=3) (by simp [scM,inM,hw,h]),take_b,if_neg hR]
   rfl
  ·by_cases h1:(b.toNat:Int)=d.dl
   ·rw [h1] at hw h
    rw [stepR_of (e:={ b:=true,f:=true }) (s:=1) (by simp [scM,startM,hw,h,h1]),stepR_of (e:={ f:=true }) (s:=1) (by simp [scM,inM,hw,h,h1])]
    simp [takeM,gather,gBegin,hR]
   ·rw [stepR_of (e:={ b:=true,a:=true,c:=b }) (s:=2) (by simp [scM,startM,hw,h,h1,h2,h3]),stepR_of (e:={ a:=true,c:=b }) (s:=2) (by simp [scM,inM,hw,h,h1,h2,h3])]
    simp [takeM,gather,gBegin,hR]
def aft (st:Int):Prop:=st=1∨st=2∨st=4
theorem a_d (hr:Rt d) (hs:aft st) (h:(b.toNat:Int)=d.dl):stepR d l st m b=if l.N≤(m.rc.length+1:Nat) then .error 8 else if m.strict l=true∧m.rc.length+1=m.wd then .error 10 else .ok (1,m.put,none):=by
 have hw:=wrongE_f (d:=d) (b:=b) (by rw [h];exact hr.d13) (by rw [h];exact hr.d10)
 rw [h] at hw
 have hq:¬ (b.toNat:Int)=d.q:=by rw [h];exact hr.dq
 rw [stepR_of (e:={ f:=true }) (s:=1) (by rcases hs with rfl|rfl|rfl<;>simp [scM,inM,hw,h,hr.dq]),take_f]
 by_cases h1:l.N≤((m.rc.length+1:Nat):Int)
 ·rw [if_pos h1,if_pos h1]
 ·rw [if_neg h1,if_neg h1]
  by_cases h2:m.strict l=true∧m.rc.length+1=m.wd
  ·rw [if_pos h2,if_pos h2]
  ·rw [if_neg h2,if_neg h2]
theorem a_13 (hr:Rt d) (hs:aft st) (h:(b.toNat:Int)=13):stepR d l st m b=if d.e=1 then .error 6 else if m.strict l=true∧m.rc.length+1≠m.wd then .error 10 else .ok (5,m.put,none):=by
 have hw:=wrongE_13 (d:=d) h
 have hq:¬ (b.toNat:Int)=d.q:=by rw [h];exact fun e=>hr.q13 e.symm
 have hd:¬ (b.toNat:Int)=d.dl:=by rw [h];exact fun e=>hr.d13 e.symm
 by_cases e1:d.e=1
 ·rw [if_pos e1]
  exact stepR_er (e:={}) (s:=0) (by rcases hs with rfl|rfl|rfl<;>simp [scM,inM,hw,e1]) (by decide)
 ·rw [if_neg e1,stepR_of (e:={ l:=true }) (s:=5) (by rcases hs with rfl|rfl|rfl<;>simp [scM,inM,hw,e1,hq,hd]<;>simp [h]),take_l]
  by_cases h2:m.strict l=true∧m.rc.length+1≠m.wd
  ·rw [if_pos h2,if_pos h2]
  ·rw [if_neg h2,if_neg h2]
theorem a_10 (hr:Rt d) (hs:aft st) (h:(b.toNat:Int)=10):stepR d l st m b=if d.e=2 then .error 6 else if m.strict l=true∧m.rc.length+1≠m.wd then .error 10 else .ok (0,m.put.out,some (m.rc++[m.fl])):=by
 have hw:=wrongE_10 (d:=d) h
 have hq:¬ (b.toNat:Int)=d.q:=by rw [h];exact fun e=>hr.q10 e.symm
 have hd:¬ (b.toNat:Int)=d.dl:=by rw [h];exact fun e=>hr.d10 e.symm
 by_cases e1:d.e=2
 ·rw [if_pos e1]
  exact stepR_er (e:={}) (s:=0) (by rcases hs with rfl|rfl|rfl<;>simp [scM,inM,hw,e1]) (by decide)
 ·rw [if_neg e1,stepR_of (e:={ l:=true,r:=true }) (s:=0) (by rcases hs with rfl|rfl|rfl<;>simp [scM,inM,hw,e1,hq,hd]<;>simp [h]),take_lr]
  by_cases h2:m.strict l=true∧m.rc.length+1≠m.wd
  ·rw [if_pos h2,if_pos h2]
  ·rw [if_neg h2,if_neg h2]
theorem a_end (hs:aft st):endR l st m=if m.strict l=true∧m.rc.length+1≠m.wd then .error 10 else .ok (some (m.rc++[m.fl])):=by
 have hc:closeM st=({ l:=true,r:=true },0):=by rcases hs with rfl|rfl|rfl<;>simp [closeM]
 unfold endR
 rw [hc,if_neg (by simp)]
 simp only [take_lr]
 by_cases h2:m.strict l=true∧m.rc.length+1≠m.wd
 ·rw [if_pos h2,if_pos h2]
 ·rw [if_neg h2,if_neg h2]
theorem s5_10 (h:(b.toNat:Int)=10):stepR d l 5 m b=.ok (0,m.out,some m.rc):=by
 rw [stepR_of (e:={ r:=true }) (s:=0) (by simp [scM,h]),take_r]
theorem s6_10 (h:(b.toNat:Int)=10):stepR d l 6 m b=.ok (0,m,none):=by
 rw [stepR_of (e:={}) (s:=0) (by simp [scM,h]),take_none]
theorem s56_x (hs:st=5∨st=6) (h:¬ (b.toNat:Int)=10):stepR d l st m b=.error 6 :=
 stepR_er (e:={}) (s:=0) (by rcases hs with rfl|rfl<;>simp [scM,h]) (by decide)
theorem s56_e (hs:st=5∨st=6):endR l st m=.error 6:=by rcases hs with rfl|rfl<;>rfl
theorem s3_e:endR l 3 m=.error 11:=rfl
theorem s0_e:endR l 0 m=.ok none:=rfl
theorem s0_13 (hr:Rt d) (h:(b.toNat:Int)=13):stepR d l 0 m b=if d.e=1 then .error 6 else .ok (6,m,none):=by
 have hw:=wrongE_13 (d:=d) h
 have hq:¬ (b.toNat:Int)=d.q:=by rw [h];exact fun e=>hr.q13 e.symm
 have hd:¬ (b.toNat:Int)=d.dl:=by rw [h];exact fun e=>hr.d13 e.symm
 by_cases e1:d.e=1
 ·rw [if_pos e1]
  exact stepR_er (e:={}) (s:=0) (by simp [scM,startM,hw,e1]) (by decide)
 ·rw [if_neg e1,stepR_of (e:={}) (s:=6) (by simp [scM,startM,hw,e1,hq,hd]<;>simp [h]),take_none]
theorem s0_10 (hr:Rt d) (h:(b.toNat:Int)=10):stepR d l 0 m b=if d.e=2 then .error 6 else .ok (0,m,none):=by
 have hw:=wrongE_10 (d:=d) h
 have hq:¬ (b.toNat:Int)=d.q:=by rw [h];exact fun e=>hr.q10 e.symm
 have hd:¬ (b.toNat:Int)=d.dl:=by rw [h];exact fun e=>hr.d10 e.symm
 by_cases e1:d.e=2
 ·rw [if_pos e1]
  exact stepR_er (e:={}) (s:=0) (by simp [scM,startM,hw,e1]) (by decide)
 ·rw [if_neg e1,stepR_of (e:={}) (s:=0) (by simp [scM,startM,hw,e1,hq,hd]<;>simp [h]),take_none]
end
end Go.Proofs.YtllanbmpacgigaaGreatDoor
