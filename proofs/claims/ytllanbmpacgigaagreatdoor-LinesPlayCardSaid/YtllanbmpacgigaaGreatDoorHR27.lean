/- Texts of the proof, joined. -/
import Derived.Test.YtllanbmpacgigaaGreatDoorHB06
import Derived.Test.YtllanbmpacgigaaGreatDoorHV27
namespace Go.Proofs.YtllanbmpacgigaaGreatDoor
open Nat renaming reduceAdd→zq1,reduceLeDiff→zq2,reduceEqDiff→zq3,reduceLT→zq4
open Int renaming reduceToNat→zq5
set_option linter.unusedSimpArgs false
set_option linter.unusedVariables false
open Go.RowKit
instance (st : Int) : Decidable (outR st) := by unfold outR; infer_instance
def nFr (st:Int) (n:Nat):Nat:=if outR st then n else n+1
def nTo (st:Int) (n:Nat):Nat:=if st=5 then n+1 else n
structure Held27 (SP:List (Nat×Nat)) (st:Int) (n:Nat) (fs ts:List Nat):Prop where
 fl:fs.length=nFr st n
 tl:ts.length=nTo st n
 fp:fs=(SP.map Prod.fst).take fs.length
 tp:ts=(SP.map Prod.snd).take ts.length
 ks:outR st∨inR st∨st=5
 nn:inR st→n < SP.length
theorem take_push {l:List Nat} {x n:Nat} (h:l[n]?=some x):l.take (n+1)=l.take n++[x]:=by
 have hn:n < l.length:=by
  apply Decidable.byContradiction
  intro hn
  rw [List.getElem?_eq_none zo] at h
  simp at h
 rw [List.take_succ_eq_append_getElem hn]
 rw [List.getElem?_eq_getElem hn] at h
 injection h with h;rw [h]
theorem sp_at {SP sp rem:List (Nat×Nat)} {x:Nat×Nat} {r:List (Nat×Nat)} (h:SP=sp++rem) (hx:rem=x :: r):(SP.map Prod.fst)[sp.length]?=some x.1∧(SP.map Prod.snd)[sp.length]?=some x.2:=by
 subst hx;subst h
 simp
theorem out_not {st:Int} (h:inR st∨st=5):¬ outR st:=by unfold inR outR at *;omega
theorem Held27.step {d:Dl} {s:Str} {R:Rs} {SP:List (Nat×Nat)} {p:Nat} {st:Int} {fr to:Nat} {sp:List (Nat×Nat)} {q:Int} {m:Mk} {acc:List (List Str×Nat)} {fs ts:List Nat}
 (hat:At d s R SP p st fr to sp q m acc) (h:Held27 SP st sp.length fs ts) (hp:p < s.length) (hn:ts.length < SP.length) :
 ∃ fr' to' sp' q' m' acc',At d s R SP (p+1) (scM d st (s.getD p 0)).2.1 fr' to' sp' q' m' acc'∧sp'.length≤SP.length ∧
   Held27 SP (scM d st (s.getD p 0)).2.1 sp'.length (if (scM d st (s.getD p 0)).1.b=true then fs++[p] else fs) (if (scM d st (s.getD p 0)).1.l=true then ts++[p] else ts):=by
 obtain ⟨g1,g2,g3,g4,g5,g6⟩:=h
 have hspn:sp.length < SP.length:=by
  have:sp.length≤ts.length:=by rw [g2];unfold nTo;split<;>omega
  omega
 obtain ⟨e0,q',m',acc',hat'⟩:=hat.step hp hspn
 obtain ⟨k1,k2,k3⟩:=sc_kinds d st (s.getD p 0) g5 e0
 generalize scM d st (s.getD p 0)=x at *
 have hle:∀ {sp2:List (Nat×Nat)} {q2 st2:Int} {m2:Mk} {fr2 to2:Nat},SP=sp2++spW d wideL q2 st2 m2 fr2 to2 (p+1) (s.drop (p+1))→sp2.length≤SP.length:=by
  intro sp2 q2 st2 m2 fr2 to2 h;rw [h];simp
 rcases g5 with g5|g5|g5
 ·obtain ⟨hl,hr,h⟩:=k1 g5
  rw [hl,hr] at hat'
  simp only [Bool.false_eq_true,if_false] at hat'
  rcases h with ⟨hb,ho⟩|⟨hb,hi⟩
  ·rw [hb] at hat'
   simp only [Bool.false_eq_true,if_false] at hat'
   refine ⟨_,_,_,_,_,_,hat',hle hat'.sps,?_⟩
   rw [hb,hl]
   simp only [Bool.false_eq_true,if_false]
   refine ⟨by rw [g1];unfold nFr;rw [if_pos g5,if_pos ho],?_,g3,g4,.inl ho,fun h=>absurd ho (out_not (.inl h))⟩
   rw [g2];unfold nTo;rw [if_neg (by unfold outR at g5;omega),if_neg (by unfold outR at ho;omega)]
  ·rw [hb] at hat'
   simp only [if_true] at hat'
   refine ⟨_,_,_,_,_,_,hat',hle hat'.sps,?_⟩
   rw [hb,hl]
   simp only [Bool.false_eq_true,if_false,if_true]
   have hfl:fs.length=sp.length:=by rw [g1];unfold nFr;rw [if_pos g5]
   refine ⟨by rw [List.length_append,hfl];unfold nFr;rw [if_neg (out_not (.inl hi))];rfl,?_,?_,g4,.inr (.inl hi),fun _=>hspn⟩
   ·rw [g2];unfold nTo;rw [if_neg (by unfold outR at g5;omega),if_neg (by unfold inR at hi;omega)]
   ·match hrem:spW d wideL q' x.2.1 m' p to (p+1) (s.drop (p+1)) with
    | [] =>
      have:=congrArg List.length hat'.sps
      rw [hrem] at this;simp at this;omega
    | y :: r =>
      have hy:=(spW_head d wideL _ _ _ _ _ _ _ y r (.inl hi) hrem).1
      have hs:=(sp_at hat'.sps hrem).1
      rw [List.length_append,hfl,List.length_singleton,take_push (x:=p) (by rw [hs,hy]),←hfl,←g3]
 ·obtain ⟨hb,h⟩:=k2 g5
  rw [hb] at hat'
  simp only [Bool.false_eq_true,if_false] at hat'
  have hfl:fs.length=sp.length+1:=by rw [g1];unfold nFr;rw [if_neg (out_not (.inl g5))]
  have htl:ts.length=sp.length:=by rw [g2];unfold nTo;rw [if_neg (by unfold inR at g5;omega)]
  rcases h with ⟨hl,hr,hi⟩|⟨hl,hr,hi⟩|⟨hl,hr,hi⟩
  ·rw [hl,hr] at hat'
   simp only [Bool.false_eq_true,if_false] at hat'
   refine ⟨_,_,_,_,_,_,hat',hle hat'.sps,?_⟩
   rw [hb,hl]
   simp only [Bool.false_eq_true,if_false]
   refine ⟨by rw [hfl];unfold nFr;rw [if_neg (out_not (.inl hi))],?_,g3,g4,.inr (.inl hi),fun _=>hspn⟩
   rw [htl];unfold nTo;rw [if_neg (by unfold inR at hi;omega)]
  ·rw [hl,hr] at hat'
   simp only [Bool.false_eq_true,if_false,if_true] at hat'
   refine ⟨_,_,_,_,_,_,hat',hle hat'.sps,?_⟩
   rw [hb,hl]
   simp only [Bool.false_eq_true,if_false,if_true]
   refine ⟨by rw [hfl];unfold nFr;rw [if_neg (out_not (.inr hi))],by rw [List.length_append,htl];unfold nTo;rw [if_pos hi];rfl,g3,?_,.inr (.inr hi),fun h=>by unfold inR at h;omega⟩
   match hrem:spW d wideL q' x.2.1 m' fr p (p+1) (s.drop (p+1)) with
   | [] =>
     have:=congrArg List.length hat'.sps
     rw [hrem] at this;simp at this;omega
   | y :: r =>
     have hy:=(spW_head d wideL _ _ _ _ _ _ _ y r (.inr hi) hrem).2 hi
     have hs:=(sp_at hat'.sps hrem).2
     rw [List.length_append,htl,List.length_singleton,take_push (x:=p) (by rw [hs,hy]),←htl,←g4]
  ·rw [hl,hr] at hat'
   simp only [Bool.false_eq_true,if_false,if_true] at hat'
   refine ⟨_,_,_,_,_,_,hat',hle hat'.sps,?_⟩
   rw [hb,hl]
   simp only [Bool.false_eq_true,if_false,if_true]
   refine ⟨by rw [hfl];unfold nFr;rw [if_pos hi];simp,by rw [List.length_append,htl];unfold nTo;rw [if_neg (by unfold outR at hi;omega)];simp,g3,?_,.inl hi,fun h=>absurd hi (out_not (.inl h))⟩
   have hs:(SP.map Prod.snd)[sp.length]?=some p:=by rw [hat'.sps];simp
   rw [List.length_append,htl,List.length_singleton,take_push (x:=p) hs,←htl,←g4]
 ·obtain ⟨hb,hl,hr,hi⟩:=k3 g5
  rw [hb,hl,hr] at hat'
  simp only [Bool.false_eq_true,if_false,if_true] at hat'
  refine ⟨_,_,_,_,_,_,hat',hle hat'.sps,?_⟩
  rw [hb,hl]
  simp only [Bool.false_eq_true,if_false]
  refine ⟨by rw [g1];unfold nFr;rw [if_neg (out_not (.inr g5)),if_pos hi];simp,by rw [g2];unfold nTo;rw [if_pos g5,if_neg (by unfold outR at hi;omega)];simp,g3,g4,.inl hi,fun h=>absurd hi (out_not (.inl h))⟩
theorem Held27.last {d:Dl} {s:Str} {R:Rs} {SP:List (Nat×Nat)} {p:Nat} {st:Int} {fr to:Nat} {sp:List (Nat×Nat)} {q:Int} {m:Mk} {acc:List (List Str×Nat)} {fs ts:List Nat}
 (hat:At d s R SP p st fr to sp q m acc) (h:Held27 SP st sp.length fs ts) (hp:s.length≤p) (hn:ts.length < SP.length):fs=SP.map Prod.fst∧ts++[s.length]=SP.map Prod.snd:=by
 obtain ⟨g1,g2,g3,g4,g5,g6⟩:=h
 have hspn:sp.length < SP.length:=by
  have:sp.length≤ts.length:=by rw [g2];unfold nTo;split<;>omega
  omega
 have hlast:=hat.last hp hspn
 have hlen:SP.length=sp.length+1:=by rw [hlast];simp
 have hin:inR st:=by
  have h2:=hat.sps
  rw [List.drop_eq_nil_of_le hp,spW] at h2
  split at h2
  ·rename_i r he
   have:=endW_rec he
   unfold aft at this
   unfold inR;omega
  ·rw [h2] at hspn;simp at hspn
 have hfl:fs.length=SP.length:=by rw [g1];unfold nFr;rw [if_neg (out_not (.inl hin))];omega
 have htl:ts.length=sp.length:=by rw [g2];unfold nTo;rw [if_neg (by unfold inR at hin;omega)]
 refine ⟨by rw [g3,hfl];exact List.take_of_length_le ze,?_⟩
 rw [g4,htl,hlast];simp
attribute [local irreducible] SemK UnitK StK AlcK BslK CallK CallV Instr.box Builtin.append_ Instr.makeSlice Instr.makeMap Instr.lookup Instr.mapUpdate Instr.sliceAt convert
end Go.Proofs.YtllanbmpacgigaaGreatDoor
