/- Texts of the proof, joined. -/
import Derived.Lib.ParseIntB
import Derived.Shelf.Strconv.ParseIntPublic10
import Derived.Stop.IfaceNil
import Derived.Stop.LaidErr
import Derived.LaidLaws
import Derived.LaidSub
import Derived.MakeChecks
import Derived.Test.YtllanbmpacgigaaGreatDoorIPa
import Derived.Test.YtllanbmpacgigaaGreatDoorIMc
namespace Go.Proofs.YtllanbmpacgigaaGreatDoor
open Nat renaming reduceAdd→zq1,reduceLeDiff→zq2,reduceEqDiff→zq3,reduceLT→zq4
open Int renaming reduceToNat→zq5
set_option linter.unusedSimpArgs false
set_option linter.unusedVariables false
def numM (s:List UInt8):Int:=if negM s=true then -(decV (trM s):Int) else decV (trM s)
theorem decV_acc (t:List UInt8):∀ a:Nat,t.foldl (fun a b=>a * 10+(b.toNat - 48)) a=a * 10 ^ t.length+decV t:=by
 induction t with
 | nil=>intro a;simp [decV]
 | cons b t ih =>
   intro a
   have h1:=ih (a * 10+(b.toNat - 48))
   have h2:=ih (0 * 10+(b.toNat - 48))
   simp only [List.foldl_cons,decV] at h1 h2 ⊢
   rw [h1,h2,List.length_cons,Nat.pow_succ,Nat.add_mul,Nat.zero_mul,Nat.zero_add,Nat.mul_assoc,Nat.mul_comm 10 (10 ^ t.length)]
   omega
theorem decV_cons (b:UInt8) (t:List UInt8):decV (b :: t)=(b.toNat - 48) * 10 ^ t.length+decV t:=by
 have:=decV_acc t (b.toNat - 48)
 simpa [decV] using this
theorem decV_lt (t:List UInt8) (h:t.all dgB=true):decV t < 10 ^ t.length:=by
 induction t with
 | nil=>simp [decV]
 | cons b t ih =>
   simp only [List.all_cons,Bool.and_eq_true,dgB,decide_eq_true_eq] at h
   have h1:=ih (by simpa [dgB] using h.2)
   rw [decV_cons,List.length_cons,Nat.pow_succ]
   have h2:(b.toNat - 48) * 10 ^ t.length≤9 * 10 ^ t.length:=Nat.mul_le_mul_right _ zo
   omega
theorem bod_cons {t:List UInt8} (h:bodM t=true):∃ b r,t=b :: r∧49≤b.toNat∧b.toNat≤57∧r.all dgB=true:=by
 cases t with
 | nil=>simp [bodM] at h
 | cons b r =>
   simp only [bodM,Bool.and_eq_true,decide_eq_true_eq,List.all_cons,dgB] at h
   obtain ⟨⟨_,h2⟩,h3,h4⟩:=h
   refine ⟨b,r,rfl,?_,by omega,by simpa [dgB] using h4⟩
   have:b.toNat≠48:=fun e=>h2 (by simp;exact UInt8.toNat_inj.1 e)
   omega
theorem bod_all {t:List UInt8} (h:bodM t=true):t.all dgB=true:=by
 simp only [bodM,Bool.and_eq_true] at h;exact h.2
theorem decV_ge {t:List UInt8} (h:bodM t=true):10 ^ (t.length - 1)≤decV t:=by
 obtain ⟨b,r,rfl,h1,_,_⟩:=bod_cons h
 rw [decV_cons,List.length_cons,Nat.add_sub_cancel]
 have:1 * 10 ^ r.length≤(b.toNat - 48) * 10 ^ r.length:=Nat.mul_le_mul_right _ zo
 omega
theorem can_all {t:List UInt8} (h:canM t=true):t.all dgB=true:=by
 simp only [canM,Bool.or_eq_true,decide_eq_true_eq] at h
 rcases h with rfl|h
 ·decide
 ·exact bod_all h
theorem can_len {t:List UInt8} (h:canM t=true):1≤t.length:=by
 simp only [canM,Bool.or_eq_true,decide_eq_true_eq] at h
 rcases h with rfl|h
 ·decide
 ·obtain ⟨b,r,rfl,_⟩:=bod_cons h;simp
theorem lex_num:∀ (t u:List UInt8),t.length=u.length→t.all dgB=true→u.all dgB=true→Op.bytesLess t u=decide (decV t < decV u):=by
 intro t
 induction t with
 | nil=>intro u hl _ _;cases u with
   | nil=>simp [Op.bytesLess,decV]
   | cons _ _=>simp at hl
 | cons a t ih =>
   intro u hl h1 h2
   cases u with
   | nil=>simp at hl
   | cons b u =>
     simp only [List.length_cons,Nat.add_right_cancel_iff] at hl
     simp only [List.all_cons,Bool.and_eq_true] at h1 h2
     have hi:=ih u hl h1.2 h2.2
     have l1:=decV_lt t h1.2
     have l2:=decV_lt u h2.2
     have d1:48≤a.toNat∧a.toNat≤57:=by simpa [dgB] using h1.1
     have d2:48≤b.toNat∧b.toNat≤57:=by simpa [dgB] using h2.1
     rw [bl_cons,hi,decV_cons,decV_cons,hl]
     rw [hl] at l1
     have hab:(a < b)↔a.toNat < b.toNat:=Iff.rfl
     have heq:(a=b)↔a.toNat=b.toNat:=UInt8.toNat_inj.symm
     rw [Bool.eq_iff_iff]
     simp only [Bool.or_eq_true,Bool.and_eq_true,decide_eq_true_eq,beq_iff_eq]
     rw [hab,heq]
     have m:∀ x y:Nat,x < y→x * 10 ^ u.length+10 ^ u.length≤y * 10 ^ u.length:=fun x y h=>by
      have:=Nat.mul_le_mul_right (10 ^ u.length) (show x+1≤y from h)
      rw [Nat.add_mul,Nat.one_mul] at this;exact this
     constructor
     ·rintro (h|⟨h,h'⟩)
      ·have:=m (a.toNat - 48) (b.toNat - 48) zo;omega
      ·rw [h];omega
     ·intro h
      by_cases hlt:a.toNat < b.toNat
      ·exact .inl hlt
      ·by_cases he:a.toNat=b.toNat
       ·rw [he] at h;exact .inr ⟨he,by omega⟩
       ·have:=m (b.toNat - 48) (a.toNat - 48) zo;omega
def cmpL (t u:List UInt8):Bool:=if t.length≠u.length then decide (t.length < u.length) else Op.bytesLess t u
theorem can_lt {t u:List UInt8} (ht:canM t=true) (hu:canM u=true) (h:t.length < u.length):decV t < decV u:=by
 have h1:=decV_lt t (can_all ht)
 have h2:=can_len ht
 have hb:bodM u=true:=by
  simp only [canM,Bool.or_eq_true,decide_eq_true_eq] at hu
  rcases hu with rfl|hu
  ·have h':t.length < 1:=h
   omega
  ·exact hu
 have h3:=decV_ge hb
 have h4:10 ^ t.length≤10 ^ (u.length - 1):=Nat.pow_le_pow_right zo zo
 omega
theorem cmpL_num {t u:List UInt8} (ht:canM t=true) (hu:canM u=true):cmpL t u=decide (decV t < decV u):=by
 unfold cmpL
 by_cases h:t.length=u.length
 ·rw [if_neg (not_not_intro h),lex_num t u h (can_all ht) (can_all hu)]
 ·rw [if_pos h]
  by_cases hl:t.length < u.length
  ·have:=can_lt ht hu hl;simp [hl,this]
  ·have:=can_lt hu ht zo
   simp only [hl,decide_false]
   symm;rw [decide_eq_false_iff_not];omega
theorem can_inj {t u:List UInt8} (ht:canM t=true) (hu:canM u=true) (h:decV t=decV u):t=u:=by
 have h1:=cmpL_num ht hu
 have h2:=cmpL_num hu ht
 have hl:t.length=u.length:=by
  rcases Nat.lt_trichotomy t.length u.length with hl|hl|hl
  ·have:=can_lt ht hu hl;omega
  ·exact hl
  ·have:=can_lt hu ht hl;omega
 unfold cmpL at h1 h2
 rw [if_neg (not_not_intro hl)] at h1
 rw [if_neg (not_not_intro hl.symm)] at h2
 have h3:cmpS t u=0:=by
  unfold cmpS
  rw [h1,h2,h];simp
 exact (ordS.zero t u).1 h3
def lessM (a b:List UInt8):Bool:=if ¬ (formM a=true∧formM b=true) then false else if negM a≠negM b then negM a else if negM a=true then cmpL (trM b) (trM a) else cmpL (trM a) (trM b)
theorem form_can {s:List UInt8} (h:formM s=true):canM (trM s)=true∧(negM s=true→1≤decV (trM s)):=by
 simp only [formM,Bool.or_eq_true,decide_eq_true_eq] at h
 rcases h with rfl|h
 ·exact ⟨by decide,fun h=>by simp [negM] at h⟩
 ·refine ⟨by simp [canM,h],fun _=>?_⟩
  have h1:=decV_ge h
  have h2:0 < 10 ^ ((trM s).length - 1):=Nat.pos_of_ne_zero ze
  omega
theorem less_num {a b:List UInt8} (ha:formM a=true) (hb:formM b=true):lessM a b=decide (numM a < numM b):=by
 obtain ⟨ca,na⟩:=form_can ha
 obtain ⟨cb,nb⟩:=form_can hb
 unfold lessM numM
 rw [if_neg (not_not_intro ⟨ha,hb⟩)]
 cases h1:negM a<;>cases h2:negM b
 ·rw [if_neg ze,if_neg ze,if_neg ze,if_neg ze,cmpL_num ca cb];simp
 ·rw [if_pos ze,if_neg ze,if_pos rfl]
  have:=nb h2
  symm;rw [decide_eq_false_iff_not];omega
 ·rw [if_pos ze,if_pos rfl,if_neg ze]
  have:=na h1
  symm;rw [decide_eq_true_eq];omega
 ·rw [if_neg ze,if_pos rfl,if_pos rfl,if_pos rfl,cmpL_num cb ca]
  rw [Bool.eq_iff_iff];simp only [decide_eq_true_eq];omega
theorem tr_neg {s:List UInt8} (h:negM s=true):s=45 :: trM s:=by
 have h2:s.take 1=[45]:=by simpa [negM] using h
 cases s with
 | nil=>simp at h2
 | cons b r=>simp at h2;subst h2;simp [trM,h]
theorem tr_pos {s:List UInt8} (h:negM s=false):trM s=s:=by simp [trM,h]
theorem num_inj {a b:List UInt8} (ha:formM a=true) (hb:formM b=true) (h:numM a=numM b):a=b:=by
 obtain ⟨ca,na⟩:=form_can ha
 obtain ⟨cb,nb⟩:=form_can hb
 unfold numM at h
 cases h1:negM a<;>cases h2:negM b<;>simp only [h1,h2,if_pos,Bool.false_eq_true,if_false] at h
 ·have:=can_inj ca cb zo
  rw [tr_pos h1,tr_pos h2] at this;exact this
 ·have:=nb h2;omega
 ·have:=na h1;omega
 ·have:=can_inj ca cb zo
  rw [tr_neg h1,tr_neg h2,this]
theorem dig_dg {d:Nat} (h:d < 10):dgB (UInt8.ofNat (48+d))=true:=by
 simp only [dgB,decide_eq_true_eq,UInt8.toNat_ofNat'];omega
theorem dec_bod:∀ (n u:Nat),u≤n→1≤u→bodM (Lib.decDigits u)=true:=by
 intro n
 induction n with
 | zero=>intro u h1 h2;omega
 | succ n ih =>
   intro u h1 h2
   rw [Lib.decDigits]
   by_cases h:u < 10
   ·rw [dif_pos h]
    simp only [bodM,Bool.and_eq_true,decide_eq_true_eq,List.all_cons,List.all_nil,Bool.and_true]
    refine ⟨⟨by simp,fun e=>?_⟩,dig_dg h⟩
    simp only [List.take_succ_cons,List.take_zero,List.cons.injEq,and_true] at e
    have:=congrArg UInt8.toNat e
    rw [UInt8.toNat_ofNat'] at this
    have h3:(48:UInt8).toNat=48:=rfl
    omega
   ·rw [dif_neg h]
    have hb:=ih (u / 10) zo zo
    obtain ⟨b,r,e,g1,g2,g3⟩:=bod_cons hb
    rw [e]
    simp only [bodM,Bool.and_eq_true,decide_eq_true_eq,List.cons_append,List.all_cons,List.all_append,List.all_nil,Bool.and_true]
    refine ⟨⟨by simp,fun e2=>?_⟩,by simp only [dgB,decide_eq_true_eq];omega,g3,dig_dg zo⟩
    simp only [List.take_succ_cons,List.take_zero,List.cons.injEq,and_true] at e2
    subst e2
    have h3:(48:UInt8).toNat=48:=rfl
    omega
theorem itoa_tr (n:Int):negM (Lib.itoa n)=decide (n < 0)∧trM (Lib.itoa n)=Lib.decDigits n.natAbs:=by
 unfold Lib.itoa
 by_cases h:n < 0
 ·rw [if_pos h];simp [negM,trM,h]
 ·rw [if_neg h]
  obtain ⟨d,r,hd,e⟩:=dec_head n.toNat _ (Nat.le_refl _)
  have hn:negM (Lib.decDigits n.toNat)=false:=by
   rw [e]
   unfold negM
   rw [decide_eq_false_iff_not]
   intro h2
   simp only [List.take_succ_cons,List.take_zero,List.cons.injEq,and_true] at h2
   exact dig_ne hd h2
  have ha:n.natAbs=n.toNat:=by omega
  rw [ha,tr_pos hn,hn];simp [h]
theorem itoa_form (n:Int):formM (Lib.itoa n)=true:=by
 obtain ⟨h1,h2⟩:=itoa_tr n
 by_cases h0:n=0
 ·subst h0
  have:Lib.itoa 0=[48]:=by
   unfold Lib.itoa
   rw [if_neg zo,Lib.decDigits,dif_pos zd];rfl
  rw [this];rfl
 ·simp only [formM,Bool.or_eq_true]
  right
  rw [h2];exact dec_bod _ _ (Nat.le_refl _) zo
theorem itoa_num (n:Int):numM (Lib.itoa n)=n:=by
 obtain ⟨h1,h2⟩:=itoa_tr n
 unfold numM
 rw [h1,h2,decV_dec _ _ (Nat.le_refl _)]
 by_cases h:n < 0
 ·simp [h];omega
 ·simp [h];omega
theorem num_itoa {s:List UInt8} (h:formM s=true):Lib.itoa (numM s)=s:=num_inj (itoa_form _) h (itoa_num _)
def pnM (s:List UInt8):Int×Int:=if formM s=false then (0,17) else if -9223372036854775808≤numM s∧numM s≤9223372036854775807 then (numM s,0) else (0,18)
theorem itoa_par {s:List UInt8} (h:(pnM s).2=0):Lib.itoa (pnM s).1=s:=by
 unfold pnM at h ⊢
 by_cases hf:formM s=false
 ·rw [if_pos hf] at h;simp at h
 ·rw [if_neg hf] at h ⊢
  by_cases hr:-9223372036854775808≤numM s∧numM s≤9223372036854775807
  ·rw [if_pos hr];exact num_itoa (by simpa using hf)
  ·rw [if_neg hr] at h;simp at h
theorem pum (t:List UInt8) (h:t.all dgB=true):∀ acc:Nat,acc≤18446744073709551615→Lib.parseUintM 18446744073709551615 acc t=if acc * 10 ^ t.length+decV t≤18446744073709551615 then .ok (acc * 10 ^ t.length+decV t) else .range:=by
 induction t with
 | nil=>intro acc ha;simp [Lib.parseUintM,decV,ha]
 | cons b t ih =>
   intro acc ha
   simp only [List.all_cons,Bool.and_eq_true] at h
   have hd:48≤b.toNat∧b.toNat≤57:=by simpa [dgB] using h.1
   have e:acc * 10 ^ (b :: t).length+decV (b :: t)=(acc * 10+(b.toNat - 48)) * 10 ^ t.length+decV t:=by
    rw [decV_cons,List.length_cons,Nat.pow_succ,Nat.add_mul,Nat.mul_assoc,Nat.mul_comm 10 (10 ^ t.length)];omega
   have hp:1≤10 ^ t.length:=Nat.pos_of_ne_zero ze
   have hm:acc * 10+(b.toNat - 48)≤(acc * 10+(b.toNat - 48)) * 10 ^ t.length:=by
    have:=Nat.mul_le_mul_left (acc * 10+(b.toNat - 48)) hp
    omega
   rw [e,Lib.parseUintM,if_pos hd]
   by_cases h1:1844674407370955162≤acc
   ·rw [if_pos h1,if_neg zo]
   ·rw [if_neg h1]
    by_cases h2:18446744073709551615 < acc * 10+(b.toNat - 48)
    ·rw [if_pos h2,if_neg zo]
    ·rw [if_neg h2];exact ih h.2 _ zo
theorem pint {s:List UInt8} (h:formM s=true):Lib.parseIntB 64 s=if -9223372036854775808≤numM s∧numM s≤9223372036854775807 then .ok (numM s) else .range:=by
 obtain ⟨ca,na⟩:=form_can h
 have hl:=can_len ca
 have hu:Lib.parseUintB 64 (trM s)=if decV (trM s)≤18446744073709551615 then .ok (decV (trM s)) else .range:=by
  unfold Lib.parseUintB
  rw [if_neg (fun e=>by rw [e] at hl;simp at hl)]
  have:=pum (trM s) (can_all ca) 0 zo
  simpa using this
 cases hn:negM s
 ·have ht:=tr_pos hn
  rw [ht] at hu ca hl
  have e:numM s=decV s:=by unfold numM;rw [hn,ht];simp
  rw [e]
  cases s with
  | nil=>simp at hl
  | cons b r =>
    have hb:=can_all ca
    simp only [List.all_cons,Bool.and_eq_true,dgB,decide_eq_true_eq] at hb
    have n45:¬ b.toNat=45:=by omega
    have c1:¬ (b.toNat=43∨b.toNat=45):=by omega
    simp only [Lib.parseIntB]
    rw [if_neg c1,hu]
    by_cases h1:decV (b :: r)≤18446744073709551615
    ·rw [if_pos h1]
     simp only [n45,not_false_eq_true,true_and,false_and,if_false]
     by_cases h2:2 ^ (64 - 1)≤decV (b :: r)
     ·rw [if_pos h2,if_neg zo]
     ·rw [if_neg h2,if_pos zo]
    ·rw [if_neg h1,if_neg zo]
 ·have ht:=tr_neg hn
  have hna:=na hn
  have e:numM s=-(decV (trM s):Int):=by unfold numM;rw [hn];simp
  rw [e]
  generalize trM s=t at *
  subst ht
  have n45:(45:UInt8).toNat=45:=rfl
  simp only [Lib.parseIntB]
  rw [if_pos (show (45:UInt8).toNat=43∨(45:UInt8).toNat=45 from Or.inr rfl),hu]
  by_cases h1:decV t≤18446744073709551615
  ·rw [if_pos h1]
   simp only [n45,not_true_eq_false,false_and,if_false,true_and,if_true]
   by_cases h2:2 ^ (64 - 1) < decV t
   ·rw [if_pos h2,if_neg zo]
   ·rw [if_neg h2,if_pos zo]
  ·rw [if_neg h1,if_neg zo]
open Go.RowKit Go.Shelf
def lays174_ren:Go.Shelf.Ren:=⟨fun|174=>141|247=>177|245=>178|287=>196|279=>197|280=>198|281=>199|282=>200|321=>204|322=>205|316=>206|171=>30|205=>207|243=>52|246=>83|283=>121|284=>122|285=>123|286=>124|129=>162|317=>161|318=>163|319=>164|320=>165|337=>191|338=>192|n=>n,fun|9=>9|3=>3|2=>2|75=>69|85=>208|4=>4|167=>254|5=>5|53=>184|175=>255|46=>206|168=>257|37=>65|0=>0|210=>269|21=>21|127=>90|145=>275|143=>273|171=>183|173=>187|212=>228|51=>229|20=>20|213=>230|232=>265|233=>266|80=>73|n=>n,fun|15=>4|16=>5|17=>1|18=>2|19=>3|n=>n⟩
theorem lays174:LaysC.n174 Tryz.prog lays174_ren where
 mixed:=zf
 f129:=Tryz.func162.trans (congrArg some zf)
 f171:=Tryz.func30.trans (congrArg some zf)
 f174:=Tryz.func141.trans (congrArg some zf)
 f205:=Tryz.func207.trans (congrArg some zf)
 f243:=Tryz.func52.trans (congrArg some zf)
 f245:=Tryz.func178.trans (congrArg some zf)
 f246:=Tryz.func83.trans (congrArg some zf)
 f247:=Tryz.func177.trans (congrArg some zf)
 f279:=Tryz.func197.trans (congrArg some zf)
 f280:=Tryz.func198.trans (congrArg some zf)
 f281:=Tryz.func199.trans (congrArg some zf)
 f282:=Tryz.func200.trans (congrArg some zf)
 f283:=Tryz.func121.trans (congrArg some zf)
 f284:=Tryz.func122.trans (congrArg some zf)
 f285:=Tryz.func123.trans (congrArg some zf)
 f286:=Tryz.func124.trans (congrArg some zf)
 f287:=Tryz.func196.trans (congrArg some zf)
 f316:=Tryz.func206.trans (congrArg some zf)
 f317:=Tryz.func161.trans (congrArg some zf)
 f318:=Tryz.func163.trans (congrArg some zf)
 f319:=Tryz.func164.trans (congrArg some zf)
 f320:=Tryz.func165.trans (congrArg some zf)
 f321:=Tryz.func204.trans (congrArg some zf)
 f322:=Tryz.func205.trans (congrArg some zf)
 f337:=Tryz.func191.trans (congrArg some zf)
 f338:=Tryz.func192.trans (congrArg some zf)
 t0:=Tryz.underlying0
 a0:=Tryz.isAgg0
 z0:=Tryz.sizeOf0
 v0:=Tryz.zeroValue0
 t2:=Tryz.underlying2
 a2:=Tryz.isAgg2
 z2:=Tryz.sizeOf2
 v2:=Tryz.zeroValue2
 t3:=Tryz.underlying3
 a3:=Tryz.isAgg3
 z3:=Tryz.sizeOf3
 v3:=Tryz.zeroValue3
 t4:=Tryz.underlying4
 a4:=Tryz.isAgg4
 z4:=Tryz.sizeOf4
 v4:=Tryz.zeroValue4
 t5:=Tryz.underlying5
 a5:=Tryz.isAgg5
 z5:=Tryz.sizeOf5
 v5:=Tryz.zeroValue5
 t9:=Tryz.underlying9
 a9:=Tryz.isAgg9
 z9:=Tryz.sizeOf9
 v9:=Tryz.zeroValue9
 t20:=Tryz.underlying20
 a20:=Tryz.isAgg20
 z20:=Tryz.sizeOf20
 v20:=Tryz.zeroValue20
 t21:=Tryz.underlying21
 a21:=Tryz.isAgg21
 z21:=Tryz.sizeOf21
 v21:=Tryz.zeroValue21
 t37:=Tryz.underlying65
 a37:=Tryz.isAgg65
 z37:=Tryz.sizeOf65
 v37:=Tryz.zeroValue65
 t46:=Tryz.underlying206
 a46:=Tryz.isAgg206
 z46:=Tryz.sizeOf206
 v46:=Tryz.zeroValue206
 t51:=Tryz.underlying229
 a51:=Tryz.isAgg229
 z51:=Tryz.sizeOf229
 v51:=Tryz.zeroValue229
 t53:=Tryz.underlying184
 a53:=Tryz.isAgg184
 z53:=Tryz.sizeOf184
 v53:=Tryz.zeroValue184
 t75:=Tryz.underlying69
 a75:=Tryz.isAgg69
 z75:=Tryz.sizeOf69
 v75:=Tryz.zeroValue69
 t85:=Tryz.underlying208
 a85:=Tryz.isAgg208
 z85:=Tryz.sizeOf208
 v85:=Tryz.zeroValue208
 t127:=Tryz.underlying90
 a127:=Tryz.isAgg90
 z127:=Tryz.sizeOf90
 v127:=Tryz.zeroValue90
 t143:=Tryz.underlying273
 a143:=Tryz.isAgg273
 z143:=Tryz.sizeOf273
 v143:=Tryz.zeroValue273
 t145:=Tryz.underlying275
 a145:=Tryz.isAgg275
 z145:=Tryz.sizeOf275
 v145:=Tryz.zeroValue275
 t167:=Tryz.underlying254
 a167:=Tryz.isAgg254
 z167:=Tryz.sizeOf254
 v167:=Tryz.zeroValue254
 t168:=Tryz.underlying257
 a168:=Tryz.isAgg257
 z168:=Tryz.sizeOf257
 v168:=Tryz.zeroValue257
 t171:=Tryz.underlying183
 a171:=Tryz.isAgg183
 z171:=Tryz.sizeOf183
 v171:=Tryz.zeroValue183
 t173:=Tryz.underlying187
 a173:=Tryz.isAgg187
 z173:=Tryz.sizeOf187
 v173:=Tryz.zeroValue187
 t175:=Tryz.underlying255
 a175:=Tryz.isAgg255
 z175:=Tryz.sizeOf255
 v175:=Tryz.zeroValue255
 t210:=Tryz.underlying269
 a210:=Tryz.isAgg269
 z210:=Tryz.sizeOf269
 v210:=Tryz.zeroValue269
 t212:=Tryz.underlying228
 a212:=Tryz.isAgg228
 z212:=Tryz.sizeOf228
 v212:=Tryz.zeroValue228
 t213:=Tryz.underlying230
 a213:=Tryz.isAgg230
 z213:=Tryz.sizeOf230
 t232:=Tryz.underlying265
 a232:=Tryz.isAgg265
 z232:=Tryz.sizeOf265
 v232:=Tryz.zeroValue265
 t233:=Tryz.underlying266
 a233:=Tryz.isAgg266
 z233:=Tryz.sizeOf266
 v233:=Tryz.zeroValue266
 g15:=zf
 g16:=zf
 g17:=zf
 g18:=zf
 g19:=zf
 t80:=Tryz.underlying73
 a80:=Tryz.isAgg73
 z80:=Tryz.sizeOf73
 v80:=Tryz.zeroValue73
 i0:=zf
 i2:=zf
 i3:=zf
 i4:=zf
 i5:=zf
 i9:=zf
 i20:=zf
 i21:=zf
 i37:=zf
 i46:=zf
 i51:=zf
 i53:=zf
 i75:=zf
 i80:=zf
 i85:=zf
 i127:=zf
 i143:=zf
 i145:=zf
 i167:=zf
 i168:=zf
 i171:=zf
 i173:=zf
 i175:=zf
 i210:=zf
 i212:=zf
 i232:=zf
 i233:=zf
 m15:=zf
 m16:=zf
 m17:=zf
 m18:=zf
 m19:=zf
 c0:=zf
 c2:=zf
 c3:=zf
 c4:=zf
 c5:=zf
 c9:=zf
 c20:=zf
 c21:=zf
 c37:=zf
 c46:=zf
 c51:=zf
 c53:=zf
 c75:=zf
 c80:=zf
 c85:=zf
 c127:=zf
 c143:=zf
 c145:=zf
 c167:=zf
 c168:=zf
 c171:=zf
 c173:=zf
 c175:=zf
 c210:=zf
 c212:=zf
 c213:=zf
 c232:=zf
 c233:=zf
def ErrV (w:World):Prop:=∃ ev,w.cell? ⟨lays174_ren.g 16,0,none⟩=some ev∧(ev=.nilIface∨∃ te pe,ev=.iface te pe)
theorem ErrV.ext {w w':World} (h:ErrV w) (hx:Ext w w'):ErrV w':=by
 obtain ⟨ev,h1,h2⟩:=h
 exact ⟨ev,hx.cell h1,h2⟩
theorem bytes_ext (w:World) (t:TypeId) (s:ByteArray):Ext w (Lib.bytesWorld w t s):=by
 have h1:Ext w (w.drew.alloc (.cells (Lib.bytesCells w t s) t)):=((Ext.refl w).drew).alloc _
 unfold Lib.bytesWorld
 generalize hw:w.drew.alloc (.cells (Lib.bytesCells w t s) t)=w1 at h1
 obtain ⟨a1,a2,a3,a4,a5⟩:=h1
 unfold World.freeze
 split
 ·exact ⟨a1,a2,a3,a4,a5⟩
 ·refine ⟨a1,a2,a3,by simpa using a4,fun k hk=>?_⟩
  have hne:¬ w.heap.size=k:=by omega
  simp [Array.getElem?_modify,hne,a5 k hk]
theorem pi_ok (s:Str) (w:World) (hl:s.length≤1000000) (h:formM s=true) (hr:-9223372036854775808≤numM s∧numM s≤9223372036854775807) :
 Pu Tryz.prog 141 #[S s,I 10,I 64] w (.tuple #[I (numM s),.nilIface]):=by
 have h0:=pint h
 rw [if_pos hr] at h0
 refine Calls.mono (Go.Proofs.Any.strconv_ParseInt_10_at64_ok lays174 ⟨s.toArray⟩ (by simp [ByteArray.size];omega) (numM s) (by simpa using h0) w) fun e w' ⟨he,hw⟩=>⟨_,he,rfl,?_⟩
 rcases hw with rfl|⟨t,rfl⟩
 ·exact Ext.refl _
 ·exact bytes_ext w _ t
theorem pi_range (s:Str) (w:World) (hl:s.length≤1000000) (h:formM s=true) (hr:¬ (-9223372036854775808≤numM s∧numM s≤9223372036854775807)) (hv:ErrV w) :
 Ret Tryz.prog 141 #[S s,I 10,I 64] w fun v w'=>∃ n t p,v=.tuple #[I n,.iface t p]∧Ext w w':=by
 have h0:=pint h
 rw [if_neg hr] at h0
 obtain ⟨ev,h1,h2⟩:=hv
 refine Calls.mono (Go.Proofs.Any.strconv_ParseInt_10_at64_range lays174 ⟨s.toArray⟩ (by simp [ByteArray.size];omega) (by simpa using h0) ev w h1 h2) fun e w' ⟨m,he,_,_,hw⟩=>⟨_,he,_,_,_,rfl,hw⟩
section
variable {P:Program} {ρ:Fr} {w:World} {d:Option Nat} {next:Fr→World→Prop} {t:TypeId} {x:Operand} {c v:Value} {u:TypeId}
theorem znn (h:next (updO ρ d (.bool false)) w) (hi:P.isIface t=true:=by kernel_rfl):SemK P (do eqGuard .neq t x (.const c) .nilIface .nilIface;binOp .neq t .nilIface .nilIface) w d ρ next :=
 ⟨_,w,by simp [eqGuard,run_neq_nil_nil_at w t hi],h⟩
theorem zns {y:Operand} (h:next (updO ρ d (.bool true)) w) (hi:P.isIface t=true:=by kernel_rfl):SemK P (do eqGuard .neq t x y (.iface u v) .nilIface;binOp .neq t (.iface u v) .nilIface) w d ρ next :=
 ⟨_,w,by simp [eqGuard,run_neq_iface_nil w t hi],h⟩
end
open Go.RowKit
theorem star_es : "*" ++ "errors.errorString" = "*errors.errorString" := by decide
theorem row_es (u : TypeId) (h : Tryz.prog.typeName? 3 u = some "*errors.errorString") : u = 273 :=
 typeName_ptr_named (nm := "errors.errorString") (by rw [star_es]; kernel_rfl) zf zd u (by rw [star_es]; exact h)
theorem glob_er : Tryz.prog.globalNamed "strconv.ErrRange" = some (lays174_ren.g 16) := by kernel_rfl
theorem errv_of {W:World} {l:List (String×DataW Unit)} (hp:(l.all fun x=>x.2.handleName?.isNone)=true)
 (hl : l.filter (fun x => x.1 == "strconv.ErrRange") = [("strconv.ErrRange", DataW.iface "*errors.errorString" (DataW.ptr (DataW.agg [DataW.lit (Lit.string [118, 97, 108, 117, 101, 32, 111, 117, 116, 32, 111, 102, 32, 114, 97, 110, 103, 101])])))])
 (h:laidMetH Tryz.prog l W):ErrV W:=by
 rw [MakeChecks.laidMetH_plain _ _ _ hp] at h
 have h2 := h.filter fun x => x.1 == "strconv.ErrRange"
 rw [hl] at h2
 obtain ⟨a,s,hv,_⟩:=laid_sentinel h2 glob_er (show (Tryz.prog.globals[lays174_ren.g 16]?).map (·.type)=some (lays174_ren.t 75) by kernel_rfl) lays174.t75 row_es Tryz.underlying273 Tryz.underlying275 rfl rfl Tryz.underlying9 zf zf
 exact ⟨_,by simpa using World.var?_cell glob_er hv 0,.inr ⟨_,_,rfl⟩⟩
end Go.Proofs.YtllanbmpacgigaaGreatDoor
