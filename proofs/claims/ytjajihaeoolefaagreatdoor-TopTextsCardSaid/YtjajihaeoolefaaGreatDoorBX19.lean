/- Texts of the proof, joined. -/
import Derived.Test.YtjajihaeoolefaaGreatDoorBW15
namespace Go.Proofs.YtjajihaeoolefaaGreatDoor
open Nat renaming reduceAdd→zq1,reduceLeDiff→zq2,reduceEqDiff→zq3,reduceLT→zq4
open Int renaming reduceToNat→zq5
set_option linter.unusedSimpArgs false
set_option linter.unusedVariables false
attribute [local irreducible] SemK UnitK StK AlcK BslK CallK CallV Instr.box Builtin.append_ Instr.makeSlice Instr.makeMap Instr.lookup Instr.mapUpdate Instr.sliceAt convert
open Go.RowKit
theorem set_zeros (out:List Int) (k n:Nat) (a:Int) (h:out.length=k) (hk:k < n):(out++List.replicate (n - k) 0).set k a=(out++[a])++List.replicate (n - (k+1)) 0:=by
  subst h
  rw [List.set_append_right _ _ (Nat.le_refl _),Nat.sub_self]
  have:n - out.length=(n - (out.length+1))+1:=by omega
  rw [this,List.replicate_succ,List.set_cons_zero]
  simp
def c30l1:MC:=(.seq (.reg [qq 54 (.bin .lss (.tmp 53) (.tmp 52))]) (.seq (.cond (.tmp 54) .skip (.exit 0)) (.seq (.blk 1 (.seq (.reg [qm 55 53,qq 56 (.adr 3 (.tmp 51) (.tmp 53)),qq 57 (.ld (.some 3) (.tmp 56)),qq 17 (.alc 74 [(S []),(.int .i64 0),(.bool false)]),qm 16 55,qn (.st 3 (.tmp 17) (.tmp 57))]) (.seq (.reg [qm 59 11,qq 60 (.fad 0 (.tmp 17)),qq 61 (.ld none (.tmp 60)),qq 62 (.call 63 [(.tmp 59),(.tmp 61)]),qm 58 62,qq 63 (.ext 0 (.tmp 58)),qq 64 (.ext 1 (.tmp 58)),qm 18 63,qm 19 64]) (.seq (.seq (.reg [qm 65 19,qq 66 (.un .not (.tmp 65)),qm 67 66,qmf 67 68 2,qf 67 69 (.bin .eql (.tmp 68) (ki 1)),qmf 67 70 69,qmt 70 71 18,qmt 70 72 16,qt 70 73 (.bin .neq (.tmp 71) (.tmp 72)),qf 67 74 (.pick (.tmp 70) (.tmp 73) (kb false)),qq 75 (.pick (.tmp 67) (kb true) (.tmp 74))]) (.cond (.tmp 75) (.seq (.reg [qm 76 16,qq 6 (.mv (.const (.slice none 0 0))),qm 7 76,qq 8 (.mv (ki 16))]) .ret) .skip)) (.seq (.reg [qm 77 14,qm 78 16,qm 79 18,qq 80 (.adr 1 (.tmp 77) (.tmp 78)),qn (.st 1 (.tmp 80) (.tmp 79))]) (.reg [qm 81 15,qq 82 (.fad 0 (.tmp 17)),qq 83 (.ld none (.tmp 82)),qn (.raw (.mapUpdate 77 (.tmp 81) (.tmp 83) (kb true)) 0)])))))) (.reg [qq 84 (.bin .add (.tmp 53) (ki 1)),qm 53 84]))))
def c30l2:MC:=(.seq (.reg [qq 90 (.bin .lss (.tmp 89) (.tmp 88))]) (.seq (.cond (.tmp 90) .skip (.exit 2)) (.seq (.blk 3 (.seq (.reg [qm 91 89,qq 92 (.adr 1 (.tmp 87) (.tmp 89)),qq 93 (.ld none (.tmp 92)),qm 20 91,qm 21 93]) (.seq (.reg [qm 94 15,qm 95 21,qq 96 (.raw (.lookup 77 (.tmp 94) (.tmp 95) false) 4),qq 97 (.un .not (.tmp 96))]) (.cond (.tmp 97) (.seq (.reg [qm 98 20,qq 6 (.mv (.const (.slice none 0 0))),qm 7 98,qq 8 (.mv (ki 10))]) .ret) .skip)))) (.reg [qq 99 (.bin .add (.tmp 89) (ki 1)),qm 89 99]))))
def c30:MC:=(.seq (.reg [qq 6 (.mv (.const (.slice none 0 0))),qq 7 (.mv (ki 0)),qq 8 (.mv (ki 0))]) (.seq (.seq (.reg [qm 22 2,qq 23 (.bin .lss (.tmp 22) (ki 1)),qm 24 23,qmf 24 25 2,qf 24 26 (.bin .gtr (.tmp 25) (ki 3)),qq 27 (.pick (.tmp 24) (kb true) (.tmp 26))]) (.cond (.tmp 27) (.seq (.reg [qq 6 (.mv (.const (.slice none 0 0))),qq 7 (.mv (ki 0)),qq 8 (.mv (ki 22))]) .ret) .skip)) (.seq (.seq (.reg [qm 29 1,qq 30 (.call 24 [(.tmp 29)]),qm 28 30,qq 31 (.ext 0 (.tmp 28)),qq 32 (.ext 1 (.tmp 28)),qm 9 31,qm 10 32]) (.seq (.reg [qm 33 10,qq 34 (.bin .neq (.tmp 33) (ki 0))]) (.cond (.tmp 34) (.seq (.reg [qm 35 9,qm 36 10,qq 6 (.mv (.const (.slice none 0 0))),qm 7 35,qm 8 36]) .ret) .skip))) (.seq (.reg [qm 38 0,qq 39 (.call 62 [(.tmp 38)]),qm 37 39,qq 40 (.ext 0 (.tmp 37)),qq 41 (.ext 1 (.tmp 37)),qq 42 (.ext 2 (.tmp 37)),qm 11 40,qm 12 41,qm 13 42]) (.seq (.seq (.reg [qm 43 13,qq 44 (.bin .neq (.tmp 43) (ki 0))]) (.cond (.tmp 44) (.seq (.reg [qm 45 12,qm 46 13,qq 6 (.mv (.const (.slice none 0 0))),qm 7 45,qm 8 46]) .ret) .skip)) (.seq (.reg [qm 47 1,qq 48 (.len (.tmp 47)),qq 49 (.raw (.makeSlice 72 (.tmp 48) (.tmp 48)) 72),qm 14 49]) (.seq (.reg [qq 50 (.raw (.makeMap 77 none) 77),qm 15 50]) (.seq (.seq (.reg [qm 51 1,qq 52 (.len (.tmp 51)),qq 53 (.mv (ki 0))]) (.blk 0 (.loop c30l1))) (.seq (.seq (.reg [qm 85 2,qq 86 (.bin .neq (.tmp 85) (ki 3))]) (.cond (.tmp 86) (.seq (.reg [qm 87 0,qq 88 (.len (.tmp 87)),qq 89 (.mv (ki 0))]) (.blk 2 (.loop c30l2))) .skip)) (.seq (.reg [qm 100 14,qm 101 14,qq 102 (.len (.tmp 101)),qm 6 100,qm 7 102,qq 8 (.mv (ki 0))]) .ret))))))))))
theorem k30:conv Tryz.prog 103 (Tryz.f30.body.getD .skip)=c30:=by kernel_rfl
theorem in30 {a0 a1 a2:Value} {w:World} {R:Value→World→Prop} (h:G Tryz.prog Tryz.f30 103 [.c c30] R (frL 0 [a0,a1,a2]) w):Ret Tryz.prog 30 #[a0,a1,a2] w R:=G.enter (args:=[a0,a1,a2]) Tryz.func30 (c:=Tryz.f30.body.getD .skip) (by kernel_rfl) (by kernel_rfl) (by simp) k30 h
set_option maxHeartbeats 1000000 in
theorem bindC_spec {v0 v1:Value} {names:List Str} {l:List Col} {mode:Int} {w:World} (h0:Rd w eS v0 names) (h1:Rd w eC v1 l) (hm:-9223372036854775808≤mode∧mode≤9223372036854775807) (hl:names.length≤1000000000) (hl1:l.length≤1000000000) (hn2:∀ s∈names,s.length≤100000000000) (hl2:∀ c∈l,c.name.length≤100000000000) :
    Ret Tryz.prog 30 #[v0,v1,I mode] w fun res w'=>∃ lv,res=.tuple #[lv,I (bindCM names (l.map nkC) mode).2.1,I (bindCM names (l.map nkC) mode).2.2]∧Sep w w' [accC lv 3 eI (bindCM names (l.map nkC) mode).1]:=by
  refine in30 ?_
  have hS:=Sep.start w
  have hbd:=h1.bd
  have nilR:∀ {wx:World} {L:List Chk},Sep w wx L→Sep w wx [accC (.slice none 0 0) 3 eI []]:=fun h=>(Sep.sub h Sub.n).nil _ _
  unfold bindCM
  by_cases hmo:mode < 1∨3 < mode
  · rw [if_pos hmo]
    repeat' (first|((with_reducible apply G.a);exact rfl)|refine G.reg fun K hK=>?_|(with_reducible (refine hK _ _ ?_);clear hK K)|(have hk:=hK;clear hk;simp (disch:=first|exact dis|fail) only [push_cast,↓reduceIte,zq1,zq2,zq3,zq4,zq5,fct])|(refine brO_n ?_ ?_<;>intro hb hc<;>first|(with_reducible exact False.elim hc)|(exfalso;omega)|(simp only [hb];clear hb))|(refine zalc ?_;intro gb wb hS)|((with_reducible refine gSt ?_);refine zs2 ?_;intro wb hS)|(refine G.cn ?_ ?_<;>intro hc<;>first|(with_reducible exact False.elim hc)|(exfalso;omega)|skip))
    all_goals
      (first|refine G.r1 ?_|refine G.r2 ?_|refine G.r3 ?_|refine G.r0 ?_|refine G.d0 ?_);(try simp (disch:=first|exact dis|fail) only [push_cast,↓reduceIte,zq1,zq2,zq3,zq4,zq5,fct])
      exact ⟨_,rfl,nilR hS⟩
  · rw [if_neg hmo]
    by_cases hck:(checkM (l.map nkC)).2≠0
    · rw [if_pos hck]
      repeat' (first|((with_reducible apply G.a);exact rfl)|refine G.reg fun K hK=>?_|(with_reducible (refine hK _ _ ?_);clear hK K)|(have hk:=hK;clear hk;simp (disch:=first|exact dis|fail) only [push_cast,↓reduceIte,zq1,zq2,zq3,zq4,zq5,fct])|(refine brO_n ?_ ?_<;>intro hb hc<;>first|(with_reducible exact False.elim hc)|(exfalso;omega)|(simp only [hb];clear hb))|(refine zalc ?_;intro gb wb hS)|((with_reducible refine gSt ?_);refine zs2 ?_;intro wb hS)|(refine zcp 24 (check_spec (h1.ext hS.x) hl2) ?_;intro wb hS)|(refine G.cn ?_ ?_<;>intro hc<;>first|(with_reducible exact False.elim hc)|(exfalso;omega)|skip))
      all_goals
        (first|refine G.r1 ?_|refine G.r2 ?_|refine G.r3 ?_|refine G.r0 ?_|refine G.d0 ?_);(try simp (disch:=first|exact dis|fail) only [push_cast,↓reduceIte,zq1,zq2,zq3,zq4,zq5,fct])
        exact ⟨_,rfl,nilR hS⟩
    · rw [if_neg hck]
      have hck':(checkM (l.map nkC)).2=0:=by omega
      by_cases hne:(newM names).2≠0
      · rw [if_pos hne]
        repeat' (first|((with_reducible apply G.a);exact rfl)|refine G.reg fun K hK=>?_|(with_reducible (refine hK _ _ ?_);clear hK K)|(have hk:=hK;clear hk;simp (disch:=first|exact dis|fail) only [push_cast,↓reduceIte,zq1,zq2,zq3,zq4,zq5,fct])|(refine brO_n ?_ ?_<;>intro hb hc<;>first|(with_reducible exact False.elim hc)|(exfalso;omega)|(simp only [hb];clear hb))|(refine zalc ?_;intro gb wb hS)|((with_reducible refine gSt ?_);refine zs2 ?_;intro wb hS)|(refine zcp 24 (check_spec (h1.ext hS.x) hl2) ?_;intro wb hS)|(refine zcp 62 (new_bad (h0.ext hS.x) hl hn2 hne) ?_;intro wb hS)|(refine G.cn ?_ ?_<;>intro hc<;>first|(with_reducible exact False.elim hc)|(exfalso;omega)|skip))
        all_goals
          (first|refine G.r1 ?_|refine G.r2 ?_|refine G.r3 ?_|refine G.r0 ?_|refine G.d0 ?_);(try simp (disch:=first|exact dis|fail) only [push_cast,↓reduceIte,zq1,zq2,zq3,zq4,zq5,fct])
          exact ⟨_,rfl,nilR hS⟩
      · rw [if_neg hne]
        have hnm:(l.map nkC).map (·.1)=l.map (·.name):=by simp [nkC]
        rw [hnm]
        repeat' (first|((with_reducible apply G.a);exact rfl)|refine G.reg fun K hK=>?_|(with_reducible (refine hK _ _ ?_);clear hK K)|(have hk:=hK;clear hk;simp (disch:=first|exact dis|fail) only [push_cast,↓reduceIte,zq1,zq2,zq3,zq4,zq5,fct])|(refine brO_n ?_ ?_<;>intro hb hc<;>first|(with_reducible exact False.elim hc)|(exfalso;omega)|(simp only [hb];clear hb))|(refine zalc ?_;intro gb wb hS)|((with_reducible refine gSt ?_);refine zs2 ?_;intro wb hS)|(refine zcp 24 (check_spec (h1.ext hS.x) hl2) ?_;intro wb hS)|(refine zco 62 (new_ok (h0.ext hS.x) hl hn2 (by omega)) ?_;rintro vb wb ⟨g,sv,r,rfl,hS2⟩;have hS:=hS2.ap;simp only [apps] at hS)|(refine zmk eI 0 ?_;intro vb wb hS)|(refine zmm Value.bool ?_;intro gb wb hS)|(refine G.cn ?_ ?_<;>intro hc<;>first|(with_reducible exact False.elim hc)|(exfalso;omega)|skip))
        simp only [Int.toNat_natCast] at hS
        obtain ⟨pv,rfl⟩:∃ pv,pv=vb:=⟨_,rfl⟩
        rw [←mbM_nil] at hS
        refine G.loop (fun r' w'=>∃ (k:Nat) (out:List Int),k≤l.length∧out.length=k∧r' 53=I k∧r' 52=I l.length∧r' 51=v1∧r' 0=v0∧r' 2=I mode∧r' 11=.pointer (some ⟨g,0,none⟩)∧r' 14=pv∧r' 15=.map (some gb)∧bcF names mode (l.map (·.name)) []=bcF names mode ((l.map (·.name)).drop k) out ∧
          Sep w w' [mapC gb Value.bool (mbM ((l.map (·.name)).take k)),accC pv 3 eI (out++List.replicate (l.length - k) 0),boxC g 175 [sv,.map (some r)],accC sv 9 eS names,mapC r I (mtM names)]) (fun r' _=>l.length - toN (r' 53)) ?_ ?_
        · refine ⟨0,[],?_⟩
          ((repeat' apply And.intro)<;>first|exact dj|(simp only [push_cast,↓reduceIte,zq1,zq2,zq3,zq4,zq5]<;>omega)|skip)
        · clear hS
          rintro u wl ⟨k,out,hk,ho,g53,g52,g51,q0,q2,g11,g14,g15,e,hS⟩ ih
          by_cases hlt:(k:Int) < l.length
          · have hnd:(l.map (·.name)).drop k=(l.getD k default).name :: (l.map (·.name)).drop (k+1):=mapD (·.name) l k hlt
            have htk:=mapT (·.name) l k hlt
            have hll:=mapL (·.name) l k hk
            have hsz:=set_zeros out k l.length (atM names (l.getD k default).name) ho (by omega)
            rw [hnd,bcF_cons,ho] at e
            (have fct:=(And.intro @g53 (And.intro @g52 (And.intro @g51 (And.intro @q0 (And.intro @q2 (And.intro @g11 (And.intro @g14 @g15)))))));repeat' (first|((with_reducible apply G.a);exact rfl)|refine G.reg fun K hK=>?_|(with_reducible (refine hK _ _ ?_);clear hK K)|(have hk:=hK;clear hk;simp (disch:=first|exact dis|fail) only [push_cast,↓reduceIte,zq1,zq2,zq3,zq4,zq5,fct])|(refine brO_n ?_ ?_<;>intro hb hc<;>first|(with_reducible exact False.elim hc)|(exfalso;omega)|(simp only [hb];clear hb))|(refine zalc ?_;intro gb wb hS)|((with_reducible refine gSt ?_);refine zs2 ?_;intro wb hS)|(refine zcp 63 (at_spec (Sep.blk hS (by repeat constructor)) (Sep.mrd hS (by repeat constructor)) _) ?_;intro wb hS)|(refine zse ?_;intro wb hS)|(refine zmu ?_;intro wb hS)|(refine G.cn ?_ ?_<;>intro hc<;>first|(with_reducible exact False.elim hc)|(exfalso;omega)|skip)))<;>(try clear fct)
            all_goals ((repeat' split at e)<;>(try (exfalso;omega)))
            all_goals first
              | ((have fct:=(And.intro @g53 (And.intro @g52 (And.intro @g51 (And.intro @q0 (And.intro @q2 (And.intro @g11 (And.intro @g14 @g15)))))));(first|refine G.r1 ?_|refine G.r2 ?_|refine G.r3 ?_|refine G.r0 ?_|refine G.d0 ?_);(try simp (disch:=first|exact dis|fail) only [push_cast,↓reduceIte,zq1,zq2,zq3,zq4,zq5,fct]);(try clear fct));rw [e,if_pos (by simp)];exact ⟨_,rfl,nilR hS⟩)
              | skip
            all_goals
              have hmx:max (atM names (l.getD k default).name) 0=atM names (l.getD k default).name:=Int.max_eq_left (by omega)
              rw [mbM_put,←htk,hmx,Int.toNat_natCast,hsz] at hS
              (refine ih _ _ ⟨k+1,out++[atM names (l.getD k default).name],?_⟩ ?_;rotate_left;(focus ((simp only [push_cast,↓reduceIte,zq1,zq2,zq3,zq4,zq5,toN_i,g53,g52,g51,q0,q2,g11,g14,g15]<;>omega)));((repeat' apply And.intro)<;>first|exact dj|(simp only [push_cast,↓reduceIte,zq1,zq2,zq3,zq4,zq5,g53,g52,g51,q0,q2,g11,g14,g15]<;>omega)|skip))
          · have hk2 : k=l.length:=by omega
            subst hk2
            rw [List.drop_eq_nil_of_le (by simp),bcF] at e
            rw [List.take_of_length_le (by simp),Nat.sub_self,List.replicate_zero,List.append_nil] at hS
            rw [e,if_neg (by simp)]
            clear ih
            (have fct:=(And.intro @g53 (And.intro @g52 (And.intro @g51 (And.intro @q0 (And.intro @q2 (And.intro @g11 (And.intro @g14 @g15)))))));repeat' (first|((with_reducible apply G.a);exact rfl)|refine G.reg fun K hK=>?_|(with_reducible (refine hK _ _ ?_);clear hK K)|(have hk:=hK;clear hk;simp (disch:=first|exact dis|fail) only [push_cast,↓reduceIte,zq1,zq2,zq3,zq4,zq5,fct])|(refine brO_n ?_ ?_<;>intro hb hc<;>first|(with_reducible exact False.elim hc)|(exfalso;omega)|(simp only [hb];clear hb))|(refine zalc ?_;intro gb wb hS)|((with_reducible refine gSt ?_);refine zs2 ?_;intro wb hS)|(refine G.cn ?_ ?_<;>intro hc<;>first|(with_reducible exact False.elim hc)|(exfalso;omega)|skip)))<;>(try clear fct)
            · rw [if_pos (by omega)]
              refine G.loop (fun r' w'=>∃ (j:Nat),j≤names.length∧r' 89=I j∧r' 88=I names.length∧r' 87=v0∧r' 14=pv∧r' 15=.map (some gb)∧lackF (l.map (·.name)) names 0=lackF (l.map (·.name)) (names.drop j) j ∧
                Sep w w' [mapC gb Value.bool (mbM (l.map (·.name))),accC pv 3 eI out]) (fun r' _=>names.length - toN (r' 89)) ?_ ?_
              · refine ⟨0,?_⟩
                ((repeat' apply And.intro)<;>first|exact dj|(simp only [push_cast,↓reduceIte,zq1,zq2,zq3,zq4,zq5,g53,g52,g51,q0,q2,g11,g14,g15]<;>omega)|skip)
              · clear hS g53 g52 g51 q0 q2 g11 g14 g15
                rintro u2 wl2 ⟨j,hj,g89,g88,g87,g14,g15,e2,hS⟩ ih
                have hnb:=h0.bd
                by_cases hjt:(j:Int) < names.length
                · rw [dropD _ _ hjt,lackF_cons] at e2
                  (have fct:=(And.intro @g89 (And.intro @g88 (And.intro @g87 (And.intro @g14 (And.intro @g15 @mbM_get)))));repeat' (first|((with_reducible apply G.a);exact rfl)|refine G.reg fun K hK=>?_|(with_reducible (refine hK _ _ ?_);clear hK K)|(have hk:=hK;clear hk;simp (disch:=first|exact dis|fail) only [push_cast,↓reduceIte,zq1,zq2,zq3,zq4,zq5,fct])|(refine brO_n ?_ ?_<;>intro hb hc<;>first|(with_reducible exact False.elim hc)|(exfalso;omega)|(simp only [hb];clear hb))|(refine zalc ?_;intro gb wb hS)|((with_reducible refine gSt ?_);refine zs2 ?_;intro wb hS)|(refine zlk ?_)|(refine G.cn ?_ ?_<;>intro hc<;>first|(with_reducible exact False.elim hc)|(exfalso;omega)|skip)))<;>(try clear fct)
                  · rw [if_pos (by omega)] at e2
                    rw [e2]
                    (have fct:=(And.intro @g89 (And.intro @g88 (And.intro @g87 (And.intro @g14 @g15))));(first|refine G.r1 ?_|refine G.r2 ?_|refine G.r3 ?_|refine G.r0 ?_|refine G.d0 ?_);(try simp (disch:=first|exact dis|fail) only [push_cast,↓reduceIte,zq1,zq2,zq3,zq4,zq5,fct]);(try clear fct))
                    exact ⟨_,rfl,nilR hS⟩
                  · rw [if_neg (by omega)] at e2
                    (refine ih _ _ ⟨j+1,?_⟩ ?_;rotate_left;(focus ((simp only [push_cast,↓reduceIte,zq1,zq2,zq3,zq4,zq5,toN_i,g89,g88,g87,g14,g15]<;>omega)));((repeat' apply And.intro)<;>first|exact dj|(simp only [push_cast,↓reduceIte,zq1,zq2,zq3,zq4,zq5,g89,g88,g87,g14,g15]<;>omega)|skip))
                · rw [List.drop_eq_nil_of_le (by omega),lackF] at e2
                  rw [e2]
                  (have fct:=(And.intro @g89 (And.intro @g88 (And.intro @g87 (And.intro @g14 @g15))));repeat' (first|((with_reducible apply G.a);exact rfl)|refine G.reg fun K hK=>?_|(with_reducible (refine hK _ _ ?_);clear hK K)|(have hk:=hK;clear hk;simp (disch:=first|exact dis|fail) only [push_cast,↓reduceIte,zq1,zq2,zq3,zq4,zq5,fct])|(refine brO_n ?_ ?_<;>intro hb hc<;>first|(with_reducible exact False.elim hc)|(exfalso;omega)|(simp only [hb];clear hb))|(refine zalc ?_;intro gb wb hS)|((with_reducible refine gSt ?_);refine zs2 ?_;intro wb hS)|(refine G.cn ?_ ?_<;>intro hc<;>first|(with_reducible exact False.elim hc)|(exfalso;omega)|skip)))<;>(try clear fct)
                  (have fct:=(And.intro @g89 (And.intro @g88 (And.intro @g87 (And.intro @g14 @g15))));(first|refine G.r1 ?_|refine G.r2 ?_|refine G.r3 ?_|refine G.r0 ?_|refine G.d0 ?_);(try simp (disch:=first|exact dis|fail) only [push_cast,↓reduceIte,zq1,zq2,zq3,zq4,zq5,fct]);(try clear fct))
                  exact ⟨_,rfl,Sep.sub hS (by repeat constructor)⟩
            · rw [if_neg (by omega)]
              (have fct:=(And.intro @g53 (And.intro @g52 (And.intro @g51 (And.intro @q0 (And.intro @q2 (And.intro @g11 (And.intro @g14 @g15)))))));(first|refine G.r1 ?_|refine G.r2 ?_|refine G.r3 ?_|refine G.r0 ?_|refine G.d0 ?_);(try simp (disch:=first|exact dis|fail) only [push_cast,↓reduceIte,zq1,zq2,zq3,zq4,zq5,fct]);(try clear fct))
              exact ⟨_,rfl,Sep.sub hS (by repeat constructor)⟩
def pickF (r:List Str):List Int→List Str→List Str×Int
  | [],out=>(out,0)
  | p :: l,out=>if (r.length:Int)≤p then ([],10) else pickF r l (out++[r.getD p.toNat default])
def pickM (r:List Str) (places:List Int):List Str×Int:=if places.any (fun p=>decide (p < 0))=true then ([],22) else pickF r places []
theorem any_step (l:List Int) (k:Nat) (h:(k:Int) < l.length) (h0:(l.take k).any (fun p=>decide (p < 0))=false) (hp:0≤l.getD k default):(l.take (k+1)).any (fun p=>decide (p < 0))=false:=by
  rw [takeD _ _ h,List.any_append,h0];simp;simpa using hp
theorem any_neg (l:List Int) (k:Nat) (h:(k:Int) < l.length) (hp:l.getD k default < 0):l.any (fun p=>decide (p < 0))=true:=List.any_eq_true.2 ⟨_,getD_mem l k h,by simpa using hp⟩
def c31l1:MC:=(.seq (.reg [qq 14 (.bin .lss (.tmp 13) (.tmp 12))]) (.seq (.cond (.tmp 14) .skip (.exit 0)) (.seq (.blk 1 (.seq (.reg [qq 15 (.adr 1 (.tmp 11) (.tmp 13)),qq 16 (.ld none (.tmp 15)),qm 7 16]) (.seq (.reg [qm 17 7,qq 18 (.bin .lss (.tmp 17) (ki 0))]) (.cond (.tmp 18) (.seq (.reg [qq 4 (.mv (.const (.slice none 0 0))),qq 5 (.mv (ki 22))]) .ret) .skip)))) (.reg [qq 19 (.bin .add (.tmp 13) (ki 1)),qm 13 19]))))
def c31l2:MC:=(.seq (.reg [qq 23 (.bin .lss (.tmp 22) (.tmp 21))]) (.seq (.cond (.tmp 23) .skip (.exit 2)) (.seq (.blk 3 (.seq (.reg [qq 24 (.adr 1 (.tmp 20) (.tmp 22)),qq 25 (.ld none (.tmp 24)),qm 10 25]) (.seq (.seq (.reg [qm 26 10,qm 27 0,qq 28 (.len (.tmp 27)),qq 29 (.bin .geq (.tmp 26) (.tmp 28))]) (.cond (.tmp 29) (.seq (.reg [qq 4 (.mv (.const (.slice none 0 0))),qq 5 (.mv (ki 10))]) .ret) .skip)) (.reg [qm 30 8,qm 31 0,qm 32 10,qq 33 (.adr 1 (.tmp 31) (.tmp 32)),qq 34 (.ld none (.tmp 33)),qq 35 (.bsl 9 [(S [])] 1 [⟨0,⟨1,(.tmp 34)⟩⟩]),qq 36 (.raw (.call ⟨(.builtin .append),#[(.tmp 30),(.tmp 35)],#[28,28]⟩) 28),qm 8 36])))) (.reg [qq 37 (.bin .add (.tmp 22) (ki 1)),qm 22 37]))))
def c31:MC:=(.seq (.reg [qq 4 (.mv (.const (.slice none 0 0))),qq 5 (.mv (ki 0))]) (.seq (.seq (.reg [qm 11 1,qq 12 (.len (.tmp 11)),qq 13 (.mv (ki 0))]) (.blk 0 (.loop c31l1))) (.seq (.reg [qq 8 (.mv (.const (.slice none 0 0)))]) (.seq (.seq (.reg [qm 20 1,qq 21 (.len (.tmp 20)),qq 22 (.mv (ki 0))]) (.blk 2 (.loop c31l2))) (.seq (.reg [qm 38 8,qm 4 38,qq 5 (.mv (ki 0))]) .ret)))))
theorem k31:conv Tryz.prog 39 (Tryz.f31.body.getD .skip)=c31:=by kernel_rfl
theorem in31 {a0 a1:Value} {w:World} {R:Value→World→Prop} (h:G Tryz.prog Tryz.f31 39 [.c c31] R (frL 0 [a0,a1]) w):Ret Tryz.prog 31 #[a0,a1] w R:=G.enter (args:=[a0,a1]) Tryz.func31 (c:=Tryz.f31.body.getD .skip) (by kernel_rfl) (by kernel_rfl) (by simp) k31 h
theorem pick_spec {v0 v1:Value} {r:List Str} {places:List Int} {w:World} (h0:Rd w eS v0 r) (h1:Rd w eI v1 places) (hl:places.length≤1000000000) :
    Ret Tryz.prog 31 #[v0,v1] w fun res w'=>∃ lv,res=.tuple #[lv,I (pickM r places).2]∧Sep w w' [accC lv 9 eS (pickM r places).1]:=by
  refine in31 ?_
  have hS:=Sep.start w
  have hb0:=h0.bd
  have nilR:∀ {wx:World} {L:List Chk},Sep w wx L→Sep w wx [accC (.slice none 0 0) 9 eS []]:=fun h=>(Sep.sub h Sub.n).nil _ _
  repeat' (first|((with_reducible apply G.a);exact rfl)|refine G.reg fun K hK=>?_|(with_reducible (refine hK _ _ ?_);clear hK K)|(with_reducible (refine hK _ ?_);clear hK K;intro wd hxd;have hS:=Sep.xx hxd)|((first|have hk:=hK|have hk:=hK2);clear hk;simp (disch:=first|exact dis|fail) only [push_cast,↓reduceIte,zq1,zq2,zq3,zq4,zq5,fct])|((first|refine brO_n ?_ ?_|refine brQ_n ?_ ?_)<;>intro hb hc<;>first|(with_reducible exact False.elim hc)|(exfalso;omega)|(simp only [hb];clear hb))|((first|refine zalc ?_|refine zbsl ?_|((with_reducible refine gBox ?_);refine zbox ?_));intro gb wb hS)|((with_reducible refine gSt ?_);refine zs2 ?_;intro wb hS)|(refine zcv ?_)|(refine G.drt mixed fun K hK wd hxd=>?_;have hS:=Sep.xx hxd)|with_reducible refine OT_leaf ?_|(with_reducible refine OT_tail fun K2 hK2=>?_)|(with_reducible (refine hK2 _ ?_);clear hK2 K2;intro wd hxd;have hS:=Sep.xx hxd)|with_reducible refine OT_br fun K2 hK2=>?_|(refine hK2 _ _ ?_ ?_<;>clear hK2 K2)|refine G.drg mixed fun K hK=>?_|(refine G.cn ?_ ?_<;>intro hc<;>first|(with_reducible exact False.elim hc)|(exfalso;omega)|skip))
  refine G.loop (fun r' w'=>∃ (k:Nat),k≤places.length∧r' 13=I k∧r' 12=I places.length∧r' 11=v1∧r' 0=v0∧r' 1=v1∧(places.take k).any (fun p=>decide (p < 0))=false∧Sep w w' []) (fun r' _=>places.length - toN (r' 13)) ?_ ?_
  · refine ⟨0,?_⟩
    ((repeat' apply And.intro)<;>first|exact dj|(simp only [push_cast,↓reduceIte,zq1,zq2,zq3,zq4,zq5]<;>omega)|skip)
    all_goals rfl
  · clear hS
    rintro u wl ⟨k,hk,h13,h12,h11,q0,q1,e,hS⟩ ih
    by_cases hlt:(k:Int) < places.length
    · (have fct:=(And.intro @h13 (And.intro @h12 (And.intro @h11 (And.intro @q0 @q1))));repeat' (first|((with_reducible apply G.a);exact rfl)|refine G.reg fun K hK=>?_|(with_reducible (refine hK _ _ ?_);clear hK K)|(with_reducible (refine hK _ ?_);clear hK K;intro wd hxd;have hS:=Sep.xx hxd)|((first|have hk:=hK|have hk:=hK2);clear hk;simp (disch:=first|exact dis|fail) only [push_cast,↓reduceIte,zq1,zq2,zq3,zq4,zq5,fct])|((first|refine brO_n ?_ ?_|refine brQ_n ?_ ?_)<;>intro hb hc<;>first|(with_reducible exact False.elim hc)|(exfalso;omega)|(simp only [hb];clear hb))|((first|refine zalc ?_|refine zbsl ?_|((with_reducible refine gBox ?_);refine zbox ?_));intro gb wb hS)|((with_reducible refine gSt ?_);refine zs2 ?_;intro wb hS)|(refine zcv ?_)|(refine G.drt mixed fun K hK wd hxd=>?_;have hS:=Sep.xx hxd)|with_reducible refine OT_leaf ?_|(with_reducible refine OT_tail fun K2 hK2=>?_)|(with_reducible (refine hK2 _ ?_);clear hK2 K2;intro wd hxd;have hS:=Sep.xx hxd)|with_reducible refine OT_br fun K2 hK2=>?_|(refine hK2 _ _ ?_ ?_<;>clear hK2 K2)|refine G.drg mixed fun K hK=>?_|(refine G.cn ?_ ?_<;>intro hc<;>first|(with_reducible exact False.elim hc)|(exfalso;omega)|skip)))<;>(try clear fct)
      · (have fct:=(And.intro @h13 (And.intro @h12 (And.intro @h11 (And.intro @q0 @q1))));(first|refine G.r1 ?_|refine G.r2 ?_|refine G.r3 ?_|refine G.r0 ?_|refine G.d0 ?_);(try simp (disch:=first|exact dis|fail) only [push_cast,↓reduceIte,zq1,zq2,zq3,zq4,zq5,fct]);(try clear fct))
        rw [pickM,if_pos (any_neg places k hlt (by omega))]
        exact ⟨_,rfl,nilR hS⟩
      · (refine ih _ _ ⟨k+1,?_⟩ ?_;rotate_left;(focus ((simp only [push_cast,↓reduceIte,zq1,zq2,zq3,zq4,zq5,toN_i,h13,h12,h11,q0,q1]<;>omega)));((repeat' apply And.intro)<;>first|exact dj|(simp only [push_cast,↓reduceIte,zq1,zq2,zq3,zq4,zq5,h13,h12,h11,q0,q1]<;>omega)|skip))
        exact any_step places k hlt e (by omega)
    · rw [List.take_of_length_le (by omega)] at e
      have hpm:pickM r places=pickF r places []:=by rw [pickM,e];rfl
      rw [hpm]
      clear ih
      (have fct:=(And.intro @h13 (And.intro @h12 (And.intro @h11 (And.intro @q0 @q1))));repeat' (first|((with_reducible apply G.a);exact rfl)|refine G.reg fun K hK=>?_|(with_reducible (refine hK _ _ ?_);clear hK K)|(with_reducible (refine hK _ ?_);clear hK K;intro wd hxd;have hS:=Sep.xx hxd)|((first|have hk:=hK|have hk:=hK2);clear hk;simp (disch:=first|exact dis|fail) only [push_cast,↓reduceIte,zq1,zq2,zq3,zq4,zq5,fct])|((first|refine brO_n ?_ ?_|refine brQ_n ?_ ?_)<;>intro hb hc<;>first|(with_reducible exact False.elim hc)|(exfalso;omega)|(simp only [hb];clear hb))|((first|refine zalc ?_|refine zbsl ?_|((with_reducible refine gBox ?_);refine zbox ?_));intro gb wb hS)|((with_reducible refine gSt ?_);refine zs2 ?_;intro wb hS)|(refine zcv ?_)|(refine G.drt mixed fun K hK wd hxd=>?_;have hS:=Sep.xx hxd)|with_reducible refine OT_leaf ?_|(with_reducible refine OT_tail fun K2 hK2=>?_)|(with_reducible (refine hK2 _ ?_);clear hK2 K2;intro wd hxd;have hS:=Sep.xx hxd)|with_reducible refine OT_br fun K2 hK2=>?_|(refine hK2 _ _ ?_ ?_<;>clear hK2 K2)|refine G.drg mixed fun K hK=>?_|(refine G.cn ?_ ?_<;>intro hc<;>first|(with_reducible exact False.elim hc)|(exfalso;omega)|skip)))<;>(try clear fct)
      have hS:=hS.nil 9 eS
      refine G.loop (fun r' w'=>∃ (j:Nat) (lv:Value) (out:List Str),j≤places.length∧out.length=j∧r' 22=I j∧r' 21=I places.length∧r' 20=v1∧r' 0=v0∧r' 8=lv∧pickF r places []=pickF r (places.drop j) out∧Sep w w' [accC lv 9 eS out]) (fun r' _=>places.length - toN (r' 22)) ?_ ?_
      · refine ⟨0,.slice none 0 0,[],?_⟩
        ((repeat' apply And.intro)<;>first|exact dj|(simp only [push_cast,↓reduceIte,zq1,zq2,zq3,zq4,zq5,h13,h12,h11,q0,q1]<;>omega)|skip)
      · clear hS h13 h12 h11 q0 q1
        rintro u2 wl2 ⟨j,lv,out,hj,ho,h22,h21,h20,q0,h8,e2,hS⟩ ih
        by_cases hjt:(j:Int) < places.length
        · have hge:0≤places.getD j default:=by
            have:=List.any_eq_false.1 e _ (getD_mem places j hjt)
            simpa using this
          rw [dropD _ _ hjt,pickF] at e2
          (have fct:=(And.intro @h22 (And.intro @h21 (And.intro @h20 (And.intro @q0 @h8))));repeat' (first|((with_reducible apply G.a);exact rfl)|refine G.reg fun K hK=>?_|(with_reducible (refine hK _ _ ?_);clear hK K)|(with_reducible (refine hK _ ?_);clear hK K;intro wd hxd;have hS:=Sep.xx hxd)|((first|have hk:=hK|have hk:=hK2);clear hk;simp (disch:=first|exact dis|fail) only [push_cast,↓reduceIte,zq1,zq2,zq3,zq4,zq5,fct])|((first|refine brO_n ?_ ?_|refine brQ_n ?_ ?_)<;>intro hb hc<;>first|(with_reducible exact False.elim hc)|(exfalso;omega)|(simp only [hb];clear hb))|((first|refine zalc ?_|refine zbsl ?_|((with_reducible refine gBox ?_);refine zbox ?_));intro gb wb hS)|((with_reducible refine gSt ?_);refine zs2 ?_;intro wb hS)|(refine zcv ?_)|(refine zap ?_;intro vb wb hS)|(refine G.drt mixed fun K hK wd hxd=>?_;have hS:=Sep.xx hxd)|with_reducible refine OT_leaf ?_|(with_reducible refine OT_tail fun K2 hK2=>?_)|(with_reducible (refine hK2 _ ?_);clear hK2 K2;intro wd hxd;have hS:=Sep.xx hxd)|with_reducible refine OT_br fun K2 hK2=>?_|(refine hK2 _ _ ?_ ?_<;>clear hK2 K2)|refine G.drg mixed fun K hK=>?_|(refine G.cn ?_ ?_<;>intro hc<;>first|(with_reducible exact False.elim hc)|(exfalso;omega)|skip)))<;>(try clear fct)
          · rw [if_pos (by omega)] at e2
            rw [e2]
            (have fct:=(And.intro @h22 (And.intro @h21 (And.intro @h20 (And.intro @q0 @h8))));(first|refine G.r1 ?_|refine G.r2 ?_|refine G.r3 ?_|refine G.r0 ?_|refine G.d0 ?_);(try simp (disch:=first|exact dis|fail) only [push_cast,↓reduceIte,zq1,zq2,zq3,zq4,zq5,fct]);(try clear fct))
            exact ⟨_,rfl,nilR hS⟩
          · rw [if_neg (by omega)] at e2
            (refine ih _ _ ⟨j+1,vb,out++[r.getD (places.getD j default).toNat default],?_⟩ ?_;rotate_left;(focus ((simp only [push_cast,↓reduceIte,zq1,zq2,zq3,zq4,zq5,toN_i,h22,h21,h20,q0,h8]<;>omega)));((repeat' apply And.intro)<;>first|exact dj|(simp only [push_cast,↓reduceIte,zq1,zq2,zq3,zq4,zq5,h22,h21,h20,q0,h8]<;>omega)|skip))
        · rw [List.drop_eq_nil_of_le (by omega),pickF] at e2
          rw [e2]
          (have fct:=(And.intro @h22 (And.intro @h21 (And.intro @h20 (And.intro @q0 @h8))));repeat' (first|((with_reducible apply G.a);exact rfl)|refine G.reg fun K hK=>?_|(with_reducible (refine hK _ _ ?_);clear hK K)|(with_reducible (refine hK _ ?_);clear hK K;intro wd hxd;have hS:=Sep.xx hxd)|((first|have hk:=hK|have hk:=hK2);clear hk;simp (disch:=first|exact dis|fail) only [push_cast,↓reduceIte,zq1,zq2,zq3,zq4,zq5,fct])|((first|refine brO_n ?_ ?_|refine brQ_n ?_ ?_)<;>intro hb hc<;>first|(with_reducible exact False.elim hc)|(exfalso;omega)|(simp only [hb];clear hb))|((first|refine zalc ?_|refine zbsl ?_|((with_reducible refine gBox ?_);refine zbox ?_));intro gb wb hS)|((with_reducible refine gSt ?_);refine zs2 ?_;intro wb hS)|(refine zcv ?_)|(refine G.drt mixed fun K hK wd hxd=>?_;have hS:=Sep.xx hxd)|with_reducible refine OT_leaf ?_|(with_reducible refine OT_tail fun K2 hK2=>?_)|(with_reducible (refine hK2 _ ?_);clear hK2 K2;intro wd hxd;have hS:=Sep.xx hxd)|with_reducible refine OT_br fun K2 hK2=>?_|(refine hK2 _ _ ?_ ?_<;>clear hK2 K2)|refine G.drg mixed fun K hK=>?_|(refine G.cn ?_ ?_<;>intro hc<;>first|(with_reducible exact False.elim hc)|(exfalso;omega)|skip)))<;>(try clear fct)
          (have fct:=(And.intro @h22 (And.intro @h21 (And.intro @h20 (And.intro @q0 @h8))));(first|refine G.r1 ?_|refine G.r2 ?_|refine G.r3 ?_|refine G.r0 ?_|refine G.d0 ?_);(try simp (disch:=first|exact dis|fail) only [push_cast,↓reduceIte,zq1,zq2,zq3,zq4,zq5,fct]);(try clear fct))
          exact ⟨_,rfl,hS⟩
end Go.Proofs.YtjajihaeoolefaaGreatDoor
