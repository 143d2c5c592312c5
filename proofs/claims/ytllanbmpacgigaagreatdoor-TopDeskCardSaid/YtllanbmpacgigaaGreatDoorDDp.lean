/- Texts of the proof, joined. -/
import Derived.Test.YtllanbmpacgigaaGreatDoorDW06
namespace Go.Proofs.YtllanbmpacgigaaGreatDoor
open Nat renaming reduceAdd→zq1,reduceLeDiff→zq2,reduceEqDiff→zq3,reduceLT→zq4
open Int renaming reduceToNat→zq5
set_option linter.unusedSimpArgs false
set_option linter.unusedVariables false
attribute [local irreducible] SemK UnitK StK AlcK BslK CallK CallV Instr.box Builtin.append_ Instr.makeSlice Instr.makeMap Instr.lookup Instr.mapUpdate Instr.sliceAt convert
open Go.RowKit
theorem shl_run {x:Int} {w:World} {P:Program} (t:TypeId) (o1 o2:Operand) (h0:0≤x) (h1:x≤15):(do eqGuard BinOp.shl t o1 o2 (U x) (Value.int IntKind.u64 4);binOp BinOp.shl t (U x) (Value.int IntKind.u64 4):Sem Value).run P w=.ok (U (x * 16)) w:=by
  have e:IntKind.u8.wrap (x * 16)=x * 16:=u8_id (by omega)
  simp [eqGuard,binOp,Op.shift,U,show min 4 IntKind.u8.bits=4 from rfl,e]
theorem or_pair:∀ x y:Fin 16,IntKind.u8.wrap ↑(((x.val:Int) * 16 % 256).toNat ||| ((y.val:Int) % 256).toNat)=(x.val:Int) * 16+y.val:=by decide
theorem or_run {x y:Int} {w:World} {P:Program} (t:TypeId) (o1 o2:Operand) (h0:0≤x) (h1:x≤15) (h2:0≤y) (h3:y≤15):(do eqGuard BinOp.or t o1 o2 (U (x * 16)) (U y);binOp BinOp.or t (U (x * 16)) (U y):Sem Value).run P w=.ok (U (x * 16+y)) w:=by
  have:=or_pair ⟨x.toNat,by omega⟩ ⟨y.toNat,by omega⟩
  simp only [Int.toNat_of_nonneg h0,Int.toNat_of_nonneg h2] at this
  simp [eqGuard,binOp,Op.intBits,U,show (2:Int) ^ IntKind.u8.bits=256 from rfl,this]
section
variable {x y:Int} {w:World} {P:Program} {d:Option Nat} {ρ:Fr} {next:Fr→World→Prop} {t:TypeId} {o1 o2:Operand}
theorem zshl (h:next (updO ρ d (U (x * 16))) w) (h0:0≤x∧x≤15:=by omega):SemK P (do eqGuard BinOp.shl t o1 o2 (U x) (Value.int IntKind.u64 4);binOp BinOp.shl t (U x) (Value.int IntKind.u64 4)) w d ρ next:=Eq.mpr (semK_val (shl_run t o1 o2 h0.1 h0.2)) h
theorem zor (h:next (updO ρ d (U (x * 16+y))) w) (h0:0≤x∧x≤15:=by omega) (h1:0≤y∧y≤15:=by omega):SemK P (do eqGuard BinOp.or t o1 o2 (U (x * 16)) (U y);binOp BinOp.or t (U (x * 16)) (U y)) w d ρ next:=Eq.mpr (semK_val (or_run t o1 o2 h0.1 h0.2 h1.1 h1.2)) h
end
def hexD (b:UInt8):Option Int:=if 48≤(b.toNat:Int)∧(b.toNat:Int)≤57 then some ((b.toNat:Int) - 48) else if 97≤(b.toNat:Int)∧(b.toNat:Int)≤102 then some ((b.toNat:Int) - 97+10) else none
theorem hexD_b {b:UInt8} {x:Int} (h:hexD b=some x):0≤x∧x≤15:=by
  unfold hexD at h
  split at h
  · injection h with h;omega
  · split at h
    · injection h with h;omega
    · simp at h
def hx2 (a b:UInt8):Option Int:=match hexD a,hexD b with
  | some x,some y=>some (x * 16+y)
  | _,_=>none
def wdD (s:Str):Option Int:=if s=[108,102] then some 1 else if s=[99,114,108,102] then some 2 else if s=[101,105,116,104,101,114] then some 3 else none
def c137:MC:=(.seq (.reg [qq 2 (.mv (.const (.int .u8 0))),qq 3 (.mv (kb false))]) (.seq (.blk 0 (.seq (.reg [qm 5 0,qq 6 (.bin .geq (.tmp 5) (.const (.int .u8 48))),qm 7 6,qmt 7 8 0,qt 7 9 (.bin .leq (.tmp 8) (.const (.int .u8 57))),qq 10 (.pick (.tmp 7) (.tmp 9) (kb false)),qm 4 10]) (.cond (.tmp 4) (.seq (.reg [qm 11 0,qq 12 (.bin .sub (.tmp 11) (.const (.int .u8 48))),qm 2 12,qq 3 (.mv (kb true))]) .ret) (.seq (.reg [qm 14 0,qq 15 (.bin .geq (.tmp 14) (.const (.int .u8 97))),qm 16 15,qmt 16 17 0,qt 16 18 (.bin .leq (.tmp 17) (.const (.int .u8 102))),qq 19 (.pick (.tmp 16) (.tmp 18) (kb false)),qm 13 19]) (.cond (.tmp 13) (.seq (.reg [qm 20 0,qq 21 (.bin .sub (.tmp 20) (.const (.int .u8 97))),qq 22 (.bin .add (.tmp 21) (.const (.int .u8 10))),qm 2 22,qq 3 (.mv (kb true))]) .ret) .skip))))) (.seq (.reg [qq 2 (.mv (.const (.int .u8 0))),qq 3 (.mv (kb false))]) .ret)))
theorem k137:conv Tryz.prog 23 (Tryz.f137.body.getD .skip)=c137:=by kernel_rfl
theorem in137 {a0:Value} {w:World} {R:Value→World→Prop} (h:G Tryz.prog Tryz.f137 23 [.c c137] R (frL 0 [a0]) w):Ret Tryz.prog 137 #[a0] w R:=G.enter (args:=[a0]) Tryz.func137 (c:=Tryz.f137.body.getD .skip) (by kernel_rfl) (by kernel_rfl) (by simp) k137 h
theorem ddig_spec (b:UInt8) (w:World):Pu Tryz.prog 137 #[U b.toNat] w (.tuple #[U ((hexD b).getD 0),.bool (hexD b).isSome]):=by
  refine in137 ?_
  have hS:=Sep.start w
  have hb:=b.toNat_lt
  unfold hexD
  repeat' (first|((with_reducible apply G.a);exact rfl)|refine G.reg fun K hK=>?_|(with_reducible (refine hK _ _ ?_);clear hK K)|(have hk:=hK;clear hk;simp (disch:=first|exact dis|fail) only [push_cast,↓reduceIte,zq1,zq2,zq3,zq4,zq5,fct])|(refine brO_n ?_ ?_<;>intro hb hc<;>first|(with_reducible exact False.elim hc)|(exfalso;omega)|(simp only [hb];clear hb))|(refine G.cn ?_ ?_<;>intro hc<;>first|(with_reducible exact False.elim hc)|(exfalso;omega)|skip))
  all_goals
    (first|refine G.r1 ?_|refine G.r2 ?_|refine G.r3 ?_|refine G.r0 ?_|refine G.d0 ?_);(try simp (disch:=first|exact dis|fail) only [push_cast,↓reduceIte,zq1,zq2,zq3,zq4,zq5,fct])
    first
      | (rw [if_pos (by omega)];(first|exact Sep.xt (by assumption)|exact ⟨rfl,Sep.xt (by assumption)⟩))
      | (rw [if_neg (by omega),if_pos (by omega)];(first|exact Sep.xt (by assumption)|exact ⟨rfl,Sep.xt (by assumption)⟩))
      | (rw [if_neg (by omega),if_neg (by omega)];(first|exact Sep.xt (by assumption)|exact ⟨rfl,Sep.xt (by assumption)⟩))
def c95:MC:=(.seq (.reg [qq 2 (.mv (ki 0)),qq 3 (.mv (kb false))]) (.seq (.seq (.reg [qm 4 0]) (.blk 0 (.seq (.reg [qq 6 (.bin .eql (.tmp 4) (.const (S [108,102]))),qm 5 6]) (.cond (.tmp 5) (.seq (.reg [qq 2 (.mv (ki 1)),qq 3 (.mv (kb true))]) .ret) (.seq (.reg [qq 8 (.bin .eql (.tmp 4) (.const (S [99,114,108,102]))),qm 7 8]) (.cond (.tmp 7) (.seq (.reg [qq 2 (.mv (ki 2)),qq 3 (.mv (kb true))]) .ret) (.seq (.reg [qq 10 (.bin .eql (.tmp 4) (.const (S [101,105,116,104,101,114]))),qm 9 10]) (.cond (.tmp 9) (.seq (.reg [qq 2 (.mv (ki 3)),qq 3 (.mv (kb true))]) .ret) .skip)))))))) (.seq (.reg [qq 2 (.mv (ki 0)),qq 3 (.mv (kb false))]) .ret)))
theorem k95:conv Tryz.prog 11 (Tryz.f95.body.getD .skip)=c95:=by kernel_rfl
theorem in95 {a0:Value} {w:World} {R:Value→World→Prop} (h:G Tryz.prog Tryz.f95 11 [.c c95] R (frL 0 [a0]) w):Ret Tryz.prog 95 #[a0] w R:=G.enter (args:=[a0]) Tryz.func95 (c:=Tryz.f95.body.getD .skip) (by kernel_rfl) (by kernel_rfl) (by simp) k95 h
theorem dend2_spec (s:Str) (w:World):Pu Tryz.prog 95 #[S s] w (.tuple #[I ((wdD s).getD 0),.bool (wdD s).isSome]):=by
  refine in95 ?_
  have hS:=Sep.start w
  unfold wdD
  by_cases h1:s=[108,102]
  · subst h1
    repeat' (first|((with_reducible apply G.a);exact rfl)|refine G.reg fun K hK=>?_|(with_reducible (refine hK _ _ ?_);clear hK K)|(have hk:=hK;clear hk;simp (disch:=first|exact dis|fail) only [push_cast,↓reduceIte,zq1,zq2,zq3,zq4,zq5,fct])|(refine G.cn ?_ ?_<;>intro hc<;>first|(with_reducible exact False.elim hc)|(exfalso;omega)|skip))
    all_goals
      (first|refine G.r1 ?_|refine G.r2 ?_|refine G.r3 ?_|refine G.r0 ?_|refine G.d0 ?_);(try simp (disch:=first|exact dis|fail) only [push_cast,↓reduceIte,zq1,zq2,zq3,zq4,zq5,fct])
      (first|exact Sep.xt (by assumption)|exact ⟨rfl,Sep.xt (by assumption)⟩)
  have e1:(s == [108,102])=false:=by rw [beq_eq_false_iff_ne];exact h1
  rw [if_neg h1]
  by_cases h2:s=[99,114,108,102]
  · subst h2
    (have fct:=@e1;repeat' (first|((with_reducible apply G.a);exact rfl)|refine G.reg fun K hK=>?_|(with_reducible (refine hK _ _ ?_);clear hK K)|(have hk:=hK;clear hk;simp (disch:=first|exact dis|fail) only [push_cast,↓reduceIte,zq1,zq2,zq3,zq4,zq5,fct])|(refine G.cn ?_ ?_<;>intro hc<;>first|(with_reducible exact False.elim hc)|(exfalso;omega)|skip)))<;>(try clear fct)
    all_goals
      (first|refine G.r1 ?_|refine G.r2 ?_|refine G.r3 ?_|refine G.r0 ?_|refine G.d0 ?_);(try simp (disch:=first|exact dis|fail) only [push_cast,↓reduceIte,zq1,zq2,zq3,zq4,zq5,fct])
      (first|exact Sep.xt (by assumption)|exact ⟨rfl,Sep.xt (by assumption)⟩)
  have e2:(s == [99,114,108,102])=false:=by rw [beq_eq_false_iff_ne];exact h2
  rw [if_neg h2]
  by_cases h3:s=[101,105,116,104,101,114]
  · subst h3
    (have fct:=(And.intro @e1 @e2);repeat' (first|((with_reducible apply G.a);exact rfl)|refine G.reg fun K hK=>?_|(with_reducible (refine hK _ _ ?_);clear hK K)|(have hk:=hK;clear hk;simp (disch:=first|exact dis|fail) only [push_cast,↓reduceIte,zq1,zq2,zq3,zq4,zq5,fct])|(refine G.cn ?_ ?_<;>intro hc<;>first|(with_reducible exact False.elim hc)|(exfalso;omega)|skip)))<;>(try clear fct)
    all_goals
      (first|refine G.r1 ?_|refine G.r2 ?_|refine G.r3 ?_|refine G.r0 ?_|refine G.d0 ?_);(try simp (disch:=first|exact dis|fail) only [push_cast,↓reduceIte,zq1,zq2,zq3,zq4,zq5,fct])
      (first|exact Sep.xt (by assumption)|exact ⟨rfl,Sep.xt (by assumption)⟩)
  have e3:(s == [101,105,116,104,101,114])=false:=by rw [beq_eq_false_iff_ne];exact h3
  rw [if_neg h3]
  (have fct:=(And.intro @e1 (And.intro @e2 @e3));repeat' (first|((with_reducible apply G.a);exact rfl)|refine G.reg fun K hK=>?_|(with_reducible (refine hK _ _ ?_);clear hK K)|(have hk:=hK;clear hk;simp (disch:=first|exact dis|fail) only [push_cast,↓reduceIte,zq1,zq2,zq3,zq4,zq5,fct])|(refine G.cn ?_ ?_<;>intro hc<;>first|(with_reducible exact False.elim hc)|(exfalso;omega)|skip)))<;>(try clear fct)
  all_goals
    (first|refine G.r1 ?_|refine G.r2 ?_|refine G.r3 ?_|refine G.r0 ?_|refine G.d0 ?_);(try simp (disch:=first|exact dis|fail) only [push_cast,↓reduceIte,zq1,zq2,zq3,zq4,zq5,fct])
    (first|exact Sep.xt (by assumption)|exact ⟨rfl,Sep.xt (by assumption)⟩)
def c94:MC:=(.seq (.reg [qq 4 (.mv (.const (.int .u8 0))),qq 5 (.mv (kb false))]) (.seq (.reg [qm 11 0,qq 12 (.call 137 [(.tmp 11)]),qm 10 12,qq 13 (.ext 0 (.tmp 10)),qq 14 (.ext 1 (.tmp 10)),qm 6 13,qm 7 14]) (.seq (.reg [qm 16 1,qq 17 (.call 137 [(.tmp 16)]),qm 15 17,qq 18 (.ext 0 (.tmp 15)),qq 19 (.ext 1 (.tmp 15)),qm 8 18,qm 9 19]) (.seq (.seq (.reg [qm 20 7,qq 21 (.un .not (.tmp 20)),qm 22 21,qmf 22 23 9,qf 22 24 (.un .not (.tmp 23)),qq 25 (.pick (.tmp 22) (kb true) (.tmp 24))]) (.cond (.tmp 25) (.seq (.reg [qq 4 (.mv (.const (.int .u8 0))),qq 5 (.mv (kb false))]) .ret) .skip)) (.seq (.reg [qm 26 6,qq 27 (.raw (.binOp .shl 5 (.tmp 26) (.const (.int .u64 4)) 206) 5),qm 28 8,qq 29 (.raw (.binOp .or 5 (.tmp 27) (.tmp 28) 5) 5),qm 4 29,qq 5 (.mv (kb true))]) .ret)))))
theorem k94:conv Tryz.prog 30 (Tryz.f94.body.getD .skip)=c94:=by kernel_rfl
theorem in94 {a0 a1:Value} {w:World} {R:Value→World→Prop} (h:G Tryz.prog Tryz.f94 30 [.c c94] R (frL 0 [a0,a1]) w):Ret Tryz.prog 94 #[a0,a1] w R:=G.enter (args:=[a0,a1]) Tryz.func94 (c:=Tryz.f94.body.getD .skip) (by kernel_rfl) (by kernel_rfl) (by simp) k94 h
theorem dunsp_spec (a b:UInt8) (w:World):Pu Tryz.prog 94 #[U a.toNat,U b.toNat] w (.tuple #[U ((hx2 a b).getD 0),.bool (hx2 a b).isSome]):=by
  refine in94 ?_
  have hS:=Sep.start w
  have ha:=fun w=>ddig_spec a w
  have hb:=fun w=>ddig_spec b w
  unfold hx2
  have hxa:=@hexD_b a
  have hxb:=@hexD_b b
  generalize hexD a=oa at *
  generalize hexD b=ob at *
  cases oa with
  | none =>
    simp only [Option.getD_none,Option.isSome_none] at ha
    repeat' (first|((with_reducible apply G.a);exact rfl)|refine G.reg fun K hK=>?_|(with_reducible (refine hK _ _ ?_);clear hK K)|(have hk:=hK;clear hk;simp (disch:=first|exact dis|fail) only [push_cast,↓reduceIte,zq1,zq2,zq3,zq4,zq5,fct])|(refine brO_n ?_ ?_<;>intro hb hc<;>first|(with_reducible exact False.elim hc)|(exfalso;omega)|(simp only [hb];clear hb))|((with_reducible (show CallK _ 137 [U a.toNat] _ _ _ _));refine zcp 137 (ha _) ?_;intro wb hS)|((with_reducible (show CallK _ 137 [U b.toNat] _ _ _ _));refine zcp 137 (hb _) ?_;intro wb hS)|(refine G.cn ?_ ?_<;>intro hc<;>first|(with_reducible exact False.elim hc)|(exfalso;omega)|skip))
    all_goals
      (first|refine G.r1 ?_|refine G.r2 ?_|refine G.r3 ?_|refine G.r0 ?_|refine G.d0 ?_);(try simp (disch:=first|exact dis|fail) only [push_cast,↓reduceIte,zq1,zq2,zq3,zq4,zq5,fct])
      (first|exact Sep.xt (by assumption)|exact ⟨rfl,Sep.xt (by assumption)⟩)
  | some x =>
    obtain ⟨x0,x1⟩:=hxa rfl
    simp only [Option.getD_some,Option.isSome_some] at ha
    cases ob with
    | none =>
      simp only [Option.getD_none,Option.isSome_none] at hb
      repeat' (first|((with_reducible apply G.a);exact rfl)|refine G.reg fun K hK=>?_|(with_reducible (refine hK _ _ ?_);clear hK K)|(have hk:=hK;clear hk;simp (disch:=first|exact dis|fail) only [push_cast,↓reduceIte,zq1,zq2,zq3,zq4,zq5,fct])|(refine brO_n ?_ ?_<;>intro hb hc<;>first|(with_reducible exact False.elim hc)|(exfalso;omega)|(simp only [hb];clear hb))|((with_reducible (show CallK _ 137 [U a.toNat] _ _ _ _));refine zcp 137 (ha _) ?_;intro wb hS)|((with_reducible (show CallK _ 137 [U b.toNat] _ _ _ _));refine zcp 137 (hb _) ?_;intro wb hS)|(refine G.cn ?_ ?_<;>intro hc<;>first|(with_reducible exact False.elim hc)|(exfalso;omega)|skip))
      all_goals
        (first|refine G.r1 ?_|refine G.r2 ?_|refine G.r3 ?_|refine G.r0 ?_|refine G.d0 ?_);(try simp (disch:=first|exact dis|fail) only [push_cast,↓reduceIte,zq1,zq2,zq3,zq4,zq5,fct])
        (first|exact Sep.xt (by assumption)|exact ⟨rfl,Sep.xt (by assumption)⟩)
    | some y =>
      obtain ⟨y0,y1⟩:=hxb rfl
      simp only [Option.getD_some,Option.isSome_some] at hb
      repeat' (first|((with_reducible apply G.a);exact rfl)|refine G.reg fun K hK=>?_|(with_reducible (refine hK _ _ ?_);clear hK K)|(have hk:=hK;clear hk;simp (disch:=first|exact dis|fail) only [push_cast,↓reduceIte,zq1,zq2,zq3,zq4,zq5,fct])|(refine brO_n ?_ ?_<;>intro hb hc<;>first|(with_reducible exact False.elim hc)|(exfalso;omega)|(simp only [hb];clear hb))|((with_reducible (show CallK _ 137 [U a.toNat] _ _ _ _));refine zcp 137 (ha _) ?_;intro wb hS)|((with_reducible (show CallK _ 137 [U b.toNat] _ _ _ _));refine zcp 137 (hb _) ?_;intro wb hS)|(refine zshl ?_)|(refine zor ?_)|(refine G.cn ?_ ?_<;>intro hc<;>first|(with_reducible exact False.elim hc)|(exfalso;omega)|skip))
      all_goals
        (first|refine G.r1 ?_|refine G.r2 ?_|refine G.r3 ?_|refine G.r0 ?_|refine G.d0 ?_);(try simp (disch:=first|exact dis|fail) only [push_cast,↓reduceIte,zq1,zq2,zq3,zq4,zq5,fct])
        (first|exact Sep.xt (by assumption)|exact ⟨rfl,Sep.xt (by assumption)⟩)
def dpM (s:Str):Dl×Int :=
  if s.length < 6∨s.getD 2 0≠32∨s.getD 5 0≠32 then (⟨0,0,0⟩,23) else match hx2 (s.getD 0 0) (s.getD 1 0),hx2 (s.getD 3 0) (s.getD 4 0),wdD (s.drop 6) with
  | some x,some y,some e=>if rightD ⟨x,y,e⟩=true then (⟨x,y,e⟩,0) else (⟨0,0,0⟩,1)
  | _,_,_=>(⟨0,0,0⟩,23)
def hdgB (n:Int):UInt8:=if n < 10 then UInt8.ofNat (48+n).toNat else UInt8.ofNat (97+n - 10).toNat
def wdE (e:Int):Str:=if e=1 then [108,102] else if e=2 then [99,114,108,102] else [101,105,116,104,101,114]
def txD (d:Dl):Str:=[hdgB (d.dl / 16),hdgB (d.dl % 16),32,hdgB (d.q / 16),hdgB (d.q % 16),32]++wdE d.e
theorem dg_hex:∀ n:Fin 16,hexD (hdgB (n.val:Int))=some (n.val:Int):=by decide
theorem hx2_dg {n:Int} (h0:0≤n) (h1:n < 256):hx2 (hdgB (n / 16)) (hdgB (n % 16))=some n:=by
  have e1:=dg_hex ⟨(n / 16).toNat,by omega⟩
  have e2:=dg_hex ⟨(n % 16).toNat,by omega⟩
  simp only [Int.toNat_of_nonneg (show 0≤n / 16 by omega),Int.toNat_of_nonneg (show 0≤n % 16 by omega)] at e1 e2
  unfold hx2
  rw [e1,e2]
  simp only [Option.some.injEq]
  omega
theorem wd_wd {e:Int} (h:e=1∨e=2∨e=3):wdD (wdE e)=some e:=by
  rcases h with rfl|rfl|rfl<;>decide
theorem right_e {d:Dl} (h:rightD d=true):d.e=1∨d.e=2∨d.e=3:=by
  unfold rightD endB at h
  simp at h
  omega
theorem dp_tx (d:Dl) (hd:byD d) (hr:rightD d=true):dpM (txD d)=(d,0):=by
  obtain ⟨a,b,c,e⟩:=hd
  unfold dpM
  rw [if_neg (by unfold txD;simp)]
  have h1:hx2 ((txD d).getD 0 0) ((txD d).getD 1 0)=some d.dl:=hx2_dg a (by omega)
  have h2:hx2 ((txD d).getD 3 0) ((txD d).getD 4 0)=some d.q:=hx2_dg c (by omega)
  have h3:wdD ((txD d).drop 6)=some d.e:=wd_wd (right_e hr)
  rw [h1,h2,h3]
  dsimp only
  rw [if_pos hr]
def c62:MC:=(.seq (.reg [qq 2 (.alc 39 [(.int .u8 0),(.int .u8 0),(.int .i64 0)]),qq 3 (.mv (ki 0))]) (.seq (.seq (.reg [qm 12 0,qq 13 (.lenS (.tmp 12)),qq 14 (.bin .lss (.tmp 13) (ki 6)),qm 15 14,qmf 15 16 0,qf 15 17 (.idxS (.tmp 16) (ki 2)),qf 15 18 (.bin .neq (.tmp 17) (.const (.int .u8 32))),qq 19 (.pick (.tmp 15) (kb true) (.tmp 18)),qm 20 19,qmf 20 21 0,qf 20 22 (.idxS (.tmp 21) (ki 5)),qf 20 23 (.bin .neq (.tmp 22) (.const (.int .u8 32))),qq 24 (.pick (.tmp 20) (kb true) (.tmp 23))]) (.cond (.tmp 24) (.seq (.reg [qq 25 (.bld [(.int .u8 0),(.int .u8 0),(.int .i64 0)] []),qn (.st 3 (.tmp 2) (.tmp 25)),qq 3 (.mv (ki 23))]) .ret) .skip)) (.seq (.drg [qm 27 0,qq 28 (.idxS (.tmp 27) (ki 0)),qm 29 0,qq 30 (.idxS (.tmp 29) (ki 1)),qq 31 (.call 94 [(.tmp 28),(.tmp 30)]),qm 26 31,qq 32 (.ext 0 (.tmp 26)),qq 33 (.ext 1 (.tmp 26)),qm 4 32,qm 5 33] (.some (.leaf [qm 27 0,qq 28 (.idxS (.tmp 27) (ki 0)),qm 29 0,qq 30 (.idxS (.tmp 29) (ki 1)),qq 31 (.call 94 [(.tmp 28),(.tmp 30)]),qm 26 31,qq 32 (.ext 0 (.tmp 26)),qq 33 (.ext 1 (.tmp 26)),qm 4 32,qm 5 33]))) (.seq (.drg [qm 35 0,qq 36 (.idxS (.tmp 35) (ki 3)),qm 37 0,qq 38 (.idxS (.tmp 37) (ki 4)),qq 39 (.call 94 [(.tmp 36),(.tmp 38)]),qm 34 39,qq 40 (.ext 0 (.tmp 34)),qq 41 (.ext 1 (.tmp 34)),qm 6 40,qm 7 41] (.some (.leaf [qm 35 0,qq 36 (.idxS (.tmp 35) (ki 3)),qm 37 0,qq 38 (.idxS (.tmp 37) (ki 4)),qq 39 (.call 94 [(.tmp 36),(.tmp 38)]),qm 34 39,qq 40 (.ext 0 (.tmp 34)),qq 41 (.ext 1 (.tmp 34)),qm 6 40,qm 7 41]))) (.seq (.reg [qm 43 0,qq 44 (.slS (.tmp 43) (.some (ki 6)) none),qq 45 (.call 95 [(.tmp 44)]),qm 42 45,qq 46 (.ext 0 (.tmp 42)),qq 47 (.ext 1 (.tmp 42)),qm 8 46,qm 9 47]) (.seq (.seq (.reg [qm 48 5,qq 49 (.un .not (.tmp 48)),qm 50 49,qmf 50 51 7,qf 50 52 (.un .not (.tmp 51)),qq 53 (.pick (.tmp 50) (kb true) (.tmp 52)),qm 54 53,qmf 54 55 9,qf 54 56 (.un .not (.tmp 55)),qq 57 (.pick (.tmp 54) (kb true) (.tmp 56))]) (.cond (.tmp 57) (.seq (.reg [qq 58 (.bld [(.int .u8 0),(.int .u8 0),(.int .i64 0)] []),qn (.st 3 (.tmp 2) (.tmp 58)),qq 3 (.mv (ki 23))]) .ret) .skip)) (.seq (.reg [qm 59 4,qm 60 6,qm 61 8,qq 62 (.bld [(.int .u8 0),(.int .u8 0),(.int .i64 0)] [⟨0,⟨1,(.tmp 59)⟩⟩,⟨1,⟨1,(.tmp 60)⟩⟩,⟨2,⟨1,(.tmp 61)⟩⟩]),qq 10 (.alc 39 [(.int .u8 0),(.int .u8 0),(.int .i64 0)]),qn (.st 3 (.tmp 10) (.tmp 62))]) (.seq (.seq (.reg [qq 63 (.ld (.some 3) (.tmp 10)),qq 64 (.call 85 [(.tmp 63)]),qm 11 64]) (.seq (.reg [qm 65 11,qq 66 (.bin .neq (.tmp 65) (ki 0))]) (.cond (.tmp 66) (.seq (.reg [qq 67 (.bld [(.int .u8 0),(.int .u8 0),(.int .i64 0)] []),qm 68 11,qn (.st 3 (.tmp 2) (.tmp 67)),qm 3 68]) .ret) .skip))) (.seq (.reg [qq 69 (.ld (.some 3) (.tmp 10)),qn (.st 3 (.tmp 2) (.tmp 69)),qq 3 (.mv (ki 0))]) .ret)))))))))
theorem k62:conv Tryz.prog 70 (Tryz.f62.body.getD .skip)=c62:=by kernel_rfl
theorem in62 {a0:Value} {w:World} {R:Value→World→Prop} (h:G Tryz.prog Tryz.f62 70 [.c c62] R (frL 0 [a0]) w):Ret Tryz.prog 62 #[a0] w R:=G.enter (args:=[a0]) Tryz.func62 (c:=Tryz.f62.body.getD .skip) (by kernel_rfl) (by kernel_rfl) (by simp) k62 h
theorem dparse_spec (s:Str) (w:World) (hl:s.length≤1000000000):Pu Tryz.prog 62 #[S s] w (.tuple #[(.agg #[U (dpM s).1.dl,U (dpM s).1.q,I (dpM s).1.e]),I (dpM s).2]):=by
  refine in62 ?_
  have hS:=Sep.start w
  unfold dpM
  by_cases h6:s.length < 6
  · rw [if_pos (.inl h6)]
    repeat' (first|((with_reducible apply G.a);exact rfl)|refine G.reg fun K hK=>?_|(with_reducible (refine hK _ _ ?_);clear hK K)|(with_reducible (refine hK _ ?_);clear hK K;intro wd hxd;have hS:=Sep.xx hxd)|(have hk:=hK;clear hk;simp (disch:=first|exact dis|fail) only [push_cast,↓reduceIte,zq1,zq2,zq3,zq4,zq5,fct])|((first|refine brO_n ?_ ?_|refine brQ_n ?_ ?_)<;>intro hb hc<;>first|(with_reducible exact False.elim hc)|(exfalso;omega)|(simp only [hb];clear hb))|(refine zalc ?_;intro gb wb hS)|((with_reducible refine gSt ?_);refine zs2 ?_;intro wb hS)|(refine G.drt mixed fun K hK wd hxd=>?_;have hS:=Sep.xx hxd)|with_reducible refine OT_leaf ?_|refine G.drg mixed fun K hK=>?_|(refine G.cn ?_ ?_<;>intro hc<;>first|(with_reducible exact False.elim hc)|(exfalso;omega)|skip))
    all_goals
      (first|refine G.r1 ?_|refine G.r2 ?_|refine G.r3 ?_|refine G.r0 ?_|refine G.d0 ?_);(try simp (disch:=first|exact dis|fail) only [push_cast,↓reduceIte,zq1,zq2,zq3,zq4,zq5,fct])
      (first|exact Sep.xt (by assumption)|exact ⟨rfl,Sep.xt (by assumption)⟩)
  by_cases h2:s.getD 2 0=32
  · by_cases h5 : s.getD 5 0=32
    · rw [if_neg (fun h=>h.elim h6 fun h=>h.elim (fun h=>h h2) fun h=>h h5)]
      have e2:((s.getD 2 0).toNat:Int)=32:=by rw [h2];rfl
      have e5:((s.getD 5 0).toNat:Int)=32:=by rw [h5];rfl
      have hu1:=fun w=>dunsp_spec (s.getD 0 0) (s.getD 1 0) w
      have hu2:=fun w=>dunsp_spec (s.getD 3 0) (s.getD 4 0) w
      have hen:=fun w=>dend2_spec (s.drop 6) w
      have hck:=fun d w=>checkD_spec d w
      generalize hx2 (s.getD 0 0) (s.getD 1 0)=ox at *
      generalize hx2 (s.getD 3 0) (s.getD 4 0)=oy at *
      generalize wdD (s.drop 6)=oe at *
      cases ox with
      | none =>
        simp only [Option.getD_none,Option.isSome_none] at hu1
        (have fct:=(And.intro @e2 @e5);repeat' (first|((with_reducible apply G.a);exact rfl)|refine G.reg fun K hK=>?_|(with_reducible (refine hK _ _ ?_);clear hK K)|(with_reducible (refine hK _ ?_);clear hK K;intro wd hxd;have hS:=Sep.xx hxd)|(have hk:=hK;clear hk;simp (disch:=first|exact dis|fail) only [push_cast,↓reduceIte,zq1,zq2,zq3,zq4,zq5,fct])|((first|refine brO_n ?_ ?_|refine brQ_n ?_ ?_)<;>intro hb hc<;>first|(with_reducible exact False.elim hc)|(exfalso;omega)|(simp only [hb];clear hb))|(refine zalc ?_;intro gb wb hS)|((with_reducible refine gSt ?_);refine zs2 ?_;intro wb hS)|((with_reducible (show CallK _ 94 [U (s.getD 0 0).toNat,U (s.getD 1 0).toNat] _ _ _ _));refine zcp 94 (hu1 _) ?_;intro wb hS)|((with_reducible (show CallK _ 94 [U (s.getD 3 0).toNat,U (s.getD 4 0).toNat] _ _ _ _));refine zcp 94 (hu2 _) ?_;intro wb hS)|(refine zcp 95 (hen _) ?_;intro wb hS)|(refine zcp 85 (hck ⟨_,_,_⟩ _) ?_;intro wb hS)|(refine G.drt mixed fun K hK wd hxd=>?_;have hS:=Sep.xx hxd)|with_reducible refine OT_leaf ?_|refine G.drg mixed fun K hK=>?_|(refine G.cn ?_ ?_<;>intro hc<;>first|(with_reducible exact False.elim hc)|(exfalso;omega)|skip)))<;>(try clear fct)
        all_goals
          (first|refine G.r1 ?_|refine G.r2 ?_|refine G.r3 ?_|refine G.r0 ?_|refine G.d0 ?_);(try simp (disch:=first|exact dis|fail) only [push_cast,↓reduceIte,zq1,zq2,zq3,zq4,zq5,fct])
          (first|exact Sep.xt (by assumption)|exact ⟨rfl,Sep.xt (by assumption)⟩)
      | some x => cases oy with
        | none =>
          simp only [Option.getD_some,Option.isSome_some] at hu1
          simp only [Option.getD_none,Option.isSome_none] at hu2
          (have fct:=(And.intro @e2 @e5);repeat' (first|((with_reducible apply G.a);exact rfl)|refine G.reg fun K hK=>?_|(with_reducible (refine hK _ _ ?_);clear hK K)|(with_reducible (refine hK _ ?_);clear hK K;intro wd hxd;have hS:=Sep.xx hxd)|(have hk:=hK;clear hk;simp (disch:=first|exact dis|fail) only [push_cast,↓reduceIte,zq1,zq2,zq3,zq4,zq5,fct])|((first|refine brO_n ?_ ?_|refine brQ_n ?_ ?_)<;>intro hb hc<;>first|(with_reducible exact False.elim hc)|(exfalso;omega)|(simp only [hb];clear hb))|(refine zalc ?_;intro gb wb hS)|((with_reducible refine gSt ?_);refine zs2 ?_;intro wb hS)|((with_reducible (show CallK _ 94 [U (s.getD 0 0).toNat,U (s.getD 1 0).toNat] _ _ _ _));refine zcp 94 (hu1 _) ?_;intro wb hS)|((with_reducible (show CallK _ 94 [U (s.getD 3 0).toNat,U (s.getD 4 0).toNat] _ _ _ _));refine zcp 94 (hu2 _) ?_;intro wb hS)|(refine zcp 95 (hen _) ?_;intro wb hS)|(refine zcp 85 (hck ⟨_,_,_⟩ _) ?_;intro wb hS)|(refine G.drt mixed fun K hK wd hxd=>?_;have hS:=Sep.xx hxd)|with_reducible refine OT_leaf ?_|refine G.drg mixed fun K hK=>?_|(refine G.cn ?_ ?_<;>intro hc<;>first|(with_reducible exact False.elim hc)|(exfalso;omega)|skip)))<;>(try clear fct)
          all_goals
            (first|refine G.r1 ?_|refine G.r2 ?_|refine G.r3 ?_|refine G.r0 ?_|refine G.d0 ?_);(try simp (disch:=first|exact dis|fail) only [push_cast,↓reduceIte,zq1,zq2,zq3,zq4,zq5,fct])
            (first|exact Sep.xt (by assumption)|exact ⟨rfl,Sep.xt (by assumption)⟩)
        | some y => cases oe with
          | none =>
            simp only [Option.getD_some,Option.isSome_some] at hu1 hu2
            simp only [Option.getD_none,Option.isSome_none] at hen
            (have fct:=(And.intro @e2 @e5);repeat' (first|((with_reducible apply G.a);exact rfl)|refine G.reg fun K hK=>?_|(with_reducible (refine hK _ _ ?_);clear hK K)|(with_reducible (refine hK _ ?_);clear hK K;intro wd hxd;have hS:=Sep.xx hxd)|(have hk:=hK;clear hk;simp (disch:=first|exact dis|fail) only [push_cast,↓reduceIte,zq1,zq2,zq3,zq4,zq5,fct])|((first|refine brO_n ?_ ?_|refine brQ_n ?_ ?_)<;>intro hb hc<;>first|(with_reducible exact False.elim hc)|(exfalso;omega)|(simp only [hb];clear hb))|(refine zalc ?_;intro gb wb hS)|((with_reducible refine gSt ?_);refine zs2 ?_;intro wb hS)|((with_reducible (show CallK _ 94 [U (s.getD 0 0).toNat,U (s.getD 1 0).toNat] _ _ _ _));refine zcp 94 (hu1 _) ?_;intro wb hS)|((with_reducible (show CallK _ 94 [U (s.getD 3 0).toNat,U (s.getD 4 0).toNat] _ _ _ _));refine zcp 94 (hu2 _) ?_;intro wb hS)|(refine zcp 95 (hen _) ?_;intro wb hS)|(refine zcp 85 (hck ⟨_,_,_⟩ _) ?_;intro wb hS)|(refine G.drt mixed fun K hK wd hxd=>?_;have hS:=Sep.xx hxd)|with_reducible refine OT_leaf ?_|refine G.drg mixed fun K hK=>?_|(refine G.cn ?_ ?_<;>intro hc<;>first|(with_reducible exact False.elim hc)|(exfalso;omega)|skip)))<;>(try clear fct)
            all_goals
              (first|refine G.r1 ?_|refine G.r2 ?_|refine G.r3 ?_|refine G.r0 ?_|refine G.d0 ?_);(try simp (disch:=first|exact dis|fail) only [push_cast,↓reduceIte,zq1,zq2,zq3,zq4,zq5,fct])
              (first|exact Sep.xt (by assumption)|exact ⟨rfl,Sep.xt (by assumption)⟩)
          | some e =>
            simp only [Option.getD_some,Option.isSome_some] at hu1 hu2 hen
            dsimp only
            by_cases hr:rightD ⟨x,y,e⟩=true
            · rw [if_pos hr]
              (have fct:=(And.intro @e2 (And.intro @e5 @hr));repeat' (first|((with_reducible apply G.a);exact rfl)|refine G.reg fun K hK=>?_|(with_reducible (refine hK _ _ ?_);clear hK K)|(with_reducible (refine hK _ ?_);clear hK K;intro wd hxd;have hS:=Sep.xx hxd)|(have hk:=hK;clear hk;simp (disch:=first|exact dis|fail) only [push_cast,↓reduceIte,zq1,zq2,zq3,zq4,zq5,fct])|((first|refine brO_n ?_ ?_|refine brQ_n ?_ ?_)<;>intro hb hc<;>first|(with_reducible exact False.elim hc)|(exfalso;omega)|(simp only [hb];clear hb))|(refine zalc ?_;intro gb wb hS)|((with_reducible refine gSt ?_);refine zs2 ?_;intro wb hS)|((with_reducible (show CallK _ 94 [U (s.getD 0 0).toNat,U (s.getD 1 0).toNat] _ _ _ _));refine zcp 94 (hu1 _) ?_;intro wb hS)|((with_reducible (show CallK _ 94 [U (s.getD 3 0).toNat,U (s.getD 4 0).toNat] _ _ _ _));refine zcp 94 (hu2 _) ?_;intro wb hS)|(refine zcp 95 (hen _) ?_;intro wb hS)|(refine zcp 85 (hck ⟨_,_,_⟩ _) ?_;intro wb hS)|(refine G.drt mixed fun K hK wd hxd=>?_;have hS:=Sep.xx hxd)|with_reducible refine OT_leaf ?_|refine G.drg mixed fun K hK=>?_|(refine G.cn ?_ ?_<;>intro hc<;>first|(with_reducible exact False.elim hc)|(exfalso;omega)|skip)))<;>(try clear fct)
              all_goals
                (first|refine G.r1 ?_|refine G.r2 ?_|refine G.r3 ?_|refine G.r0 ?_|refine G.d0 ?_);(try simp (disch:=first|exact dis|fail) only [push_cast,↓reduceIte,zq1,zq2,zq3,zq4,zq5,fct])
                (first|exact Sep.xt (by assumption)|exact ⟨rfl,Sep.xt (by assumption)⟩)
            · rw [if_neg hr]
              rw [Bool.not_eq_true] at hr
              (have fct:=(And.intro @e2 (And.intro @e5 @hr));repeat' (first|((with_reducible apply G.a);exact rfl)|refine G.reg fun K hK=>?_|(with_reducible (refine hK _ _ ?_);clear hK K)|(with_reducible (refine hK _ ?_);clear hK K;intro wd hxd;have hS:=Sep.xx hxd)|(have hk:=hK;clear hk;simp (disch:=first|exact dis|fail) only [push_cast,↓reduceIte,zq1,zq2,zq3,zq4,zq5,fct])|((first|refine brO_n ?_ ?_|refine brQ_n ?_ ?_)<;>intro hb hc<;>first|(with_reducible exact False.elim hc)|(exfalso;omega)|(simp only [hb];clear hb))|(refine zalc ?_;intro gb wb hS)|((with_reducible refine gSt ?_);refine zs2 ?_;intro wb hS)|((with_reducible (show CallK _ 94 [U (s.getD 0 0).toNat,U (s.getD 1 0).toNat] _ _ _ _));refine zcp 94 (hu1 _) ?_;intro wb hS)|((with_reducible (show CallK _ 94 [U (s.getD 3 0).toNat,U (s.getD 4 0).toNat] _ _ _ _));refine zcp 94 (hu2 _) ?_;intro wb hS)|(refine zcp 95 (hen _) ?_;intro wb hS)|(refine zcp 85 (hck ⟨_,_,_⟩ _) ?_;intro wb hS)|(refine G.drt mixed fun K hK wd hxd=>?_;have hS:=Sep.xx hxd)|with_reducible refine OT_leaf ?_|refine G.drg mixed fun K hK=>?_|(refine G.cn ?_ ?_<;>intro hc<;>first|(with_reducible exact False.elim hc)|(exfalso;omega)|skip)))<;>(try clear fct)
              all_goals
                (first|refine G.r1 ?_|refine G.r2 ?_|refine G.r3 ?_|refine G.r0 ?_|refine G.d0 ?_);(try simp (disch:=first|exact dis|fail) only [push_cast,↓reduceIte,zq1,zq2,zq3,zq4,zq5,fct])
                (first|exact Sep.xt (by assumption)|exact ⟨rfl,Sep.xt (by assumption)⟩)
    · rw [if_pos (.inr (.inr h5))]
      have e2:((s.getD 2 0).toNat:Int)=32:=by rw [h2];rfl
      have e5:¬ ((s.getD 5 0).toNat:Int)=32:=fun h=>h5 (UInt8.toNat_inj.1 (by have:(32:UInt8).toNat=32:=rfl;omega))
      (have fct:=@e2;repeat' (first|((with_reducible apply G.a);exact rfl)|refine G.reg fun K hK=>?_|(with_reducible (refine hK _ _ ?_);clear hK K)|(with_reducible (refine hK _ ?_);clear hK K;intro wd hxd;have hS:=Sep.xx hxd)|(have hk:=hK;clear hk;simp (disch:=first|exact dis|fail) only [push_cast,↓reduceIte,zq1,zq2,zq3,zq4,zq5,fct])|((first|refine brO_n ?_ ?_|refine brQ_n ?_ ?_)<;>intro hb hc<;>first|(with_reducible exact False.elim hc)|(exfalso;omega)|(simp only [hb];clear hb))|(refine zalc ?_;intro gb wb hS)|((with_reducible refine gSt ?_);refine zs2 ?_;intro wb hS)|(refine G.drt mixed fun K hK wd hxd=>?_;have hS:=Sep.xx hxd)|with_reducible refine OT_leaf ?_|refine G.drg mixed fun K hK=>?_|(refine G.cn ?_ ?_<;>intro hc<;>first|(with_reducible exact False.elim hc)|(exfalso;omega)|skip)))<;>(try clear fct)
      all_goals
        (first|refine G.r1 ?_|refine G.r2 ?_|refine G.r3 ?_|refine G.r0 ?_|refine G.d0 ?_);(try simp (disch:=first|exact dis|fail) only [push_cast,↓reduceIte,zq1,zq2,zq3,zq4,zq5,fct])
        (first|exact Sep.xt (by assumption)|exact ⟨rfl,Sep.xt (by assumption)⟩)
  · rw [if_pos (.inr (.inl h2))]
    have e2:¬ ((s.getD 2 0).toNat:Int)=32:=fun h=>h2 (UInt8.toNat_inj.1 (by have:(32:UInt8).toNat=32:=rfl;omega))
    repeat' (first|((with_reducible apply G.a);exact rfl)|refine G.reg fun K hK=>?_|(with_reducible (refine hK _ _ ?_);clear hK K)|(with_reducible (refine hK _ ?_);clear hK K;intro wd hxd;have hS:=Sep.xx hxd)|(have hk:=hK;clear hk;simp (disch:=first|exact dis|fail) only [push_cast,↓reduceIte,zq1,zq2,zq3,zq4,zq5,fct])|((first|refine brO_n ?_ ?_|refine brQ_n ?_ ?_)<;>intro hb hc<;>first|(with_reducible exact False.elim hc)|(exfalso;omega)|(simp only [hb];clear hb))|(refine zalc ?_;intro gb wb hS)|((with_reducible refine gSt ?_);refine zs2 ?_;intro wb hS)|(refine G.drt mixed fun K hK wd hxd=>?_;have hS:=Sep.xx hxd)|with_reducible refine OT_leaf ?_|refine G.drg mixed fun K hK=>?_|(refine G.cn ?_ ?_<;>intro hc<;>first|(with_reducible exact False.elim hc)|(exfalso;omega)|skip))
    all_goals
      (first|refine G.r1 ?_|refine G.r2 ?_|refine G.r3 ?_|refine G.r0 ?_|refine G.d0 ?_);(try simp (disch:=first|exact dis|fail) only [push_cast,↓reduceIte,zq1,zq2,zq3,zq4,zq5,fct])
      (first|exact Sep.xt (by assumption)|exact ⟨rfl,Sep.xt (by assumption)⟩)
end Go.Proofs.YtllanbmpacgigaaGreatDoor
namespace Go.Proofs.YtllanbmpacgigaaGreatDoor
open Nat renaming reduceAdd→zq1,reduceLeDiff→zq2,reduceEqDiff→zq3,reduceLT→zq4
open Int renaming reduceToNat→zq5
set_option linter.unusedSimpArgs false
set_option linter.unusedVariables false
attribute [local irreducible] SemK UnitK StK AlcK BslK CallK CallV Instr.box Builtin.append_ Instr.makeSlice Instr.makeMap Instr.lookup Instr.mapUpdate Instr.sliceAt convert
open Go.RowKit
def isArrS (P:Program) (t:TypeId) (n:Nat):Option TypeId:=match P.underlying t with
  | some (.array m e)=>if m=n then (match P.info? e,P.underlying e with
    | some i,some .string=>if i.size=1 then some e else none
    | _,_=>none) else none
  | _=>none
theorem idxSK {P:Program} {t:TypeId} {n k:Nat} {i0:Int} {xs:List Value} {w:World} {d:Option Nat} {ρ:Fr} {next:Fr→World→Prop} (h:next (updO ρ d (xs.getD k undef)) w) (hi0:i0=k) (hk:k < n) (hl:xs.length=n) (hT:(isArrS P t n).isSome=true):SemK P (Instr.index t (.agg xs.toArray) (I i0)) w d ρ next:=by
  subst hi0
  unfold isArrS at hT
  split at hT<;>try (simp at hT;done)
  rename_i m e' hu
  split at hT<;>try (simp at hT;done)
  rename_i hm
  split at hT<;>try (simp at hT;done)
  rename_i i hi hue
  split at hT<;>try (simp at hT;done)
  rename_i hs
  subst hm
  have hag:(isAgg e').run P w=.ok false w:=by simp [isAgg,run_underlying hue]
  have hb:(0:Int)≤k∧(k:Int) < (m:Nat):=by omega
  have hg:xs[k]?=some (xs.getD k undef):=by rw [List.getD_eq_getElem?_getD,List.getElem?_eq_getElem (by omega)];rfl
  have hsz:∀ w,(sizeOf e').run P w=.ok 1 w:=fun w=>by simp [sizeOf,typeInfo,hi,hs]
  have hg':xs.toArray[(k:Int).toNat * 1]?=some (xs.getD k undef):=by simpa using hg
  rw [semK_val (v:=xs.getD k undef) (w':=w)]
  · exact h
  · unfold Instr.index
    simp only [Sem.run_bind,asIntOf,Sem.run_pure,Result.andThen_ok,run_underlying hu,hb,and_self,if_true,hsz,part,hag,Bool.false_eq_true,if_false,hg']
def c40:MC:=(.seq (.reg [qq 2 (.mv (.const (S [])))]) (.seq (.seq (.reg [qm 3 0,qq 4 (.bin .lss (.tmp 3) (ki 10))]) (.cond (.tmp 4) (.seq (.reg [qm 5 0,qq 6 (.bin .add (ki 48) (.tmp 5)),qq 7 (.cvi .u8 (.tmp 6)),qq 8 (.bsl 5 [(.int .u8 0)] 1 [⟨0,⟨1,(.tmp 7)⟩⟩]),qq 9 (.b2s (.tmp 8)),qm 2 9]) .ret) .skip)) (.seq (.reg [qm 10 0,qq 11 (.bin .add (ki 97) (.tmp 10)),qq 12 (.bin .sub (.tmp 11) (ki 10)),qq 13 (.cvi .u8 (.tmp 12)),qq 14 (.bsl 5 [(.int .u8 0)] 1 [⟨0,⟨1,(.tmp 13)⟩⟩]),qq 15 (.b2s (.tmp 14)),qm 2 15]) .ret)))
theorem k40:conv Tryz.prog 16 (Tryz.f40.body.getD .skip)=c40:=by kernel_rfl
theorem in40 {a0:Value} {w:World} {R:Value→World→Prop} (h:G Tryz.prog Tryz.f40 16 [.c c40] R (frL 0 [a0]) w):Ret Tryz.prog 40 #[a0] w R:=G.enter (args:=[a0]) Tryz.func40 (c:=Tryz.f40.body.getD .skip) (by kernel_rfl) (by kernel_rfl) (by simp) k40 h
theorem rdig01_spec (n:Int) (h0:0≤n) (h1:n≤15) (w:World):Pu Tryz.prog 40 #[I n] w (S [hdgB n]):=by
  refine in40 ?_
  have hS:=Sep.start w
  unfold hdgB
  by_cases h:n < 10
  · rw [if_pos h]
    have hu:IntKind.u8.wrap (48+n)=48+n:=u8_id (by omega)
    (have fct:=@hu;repeat' (first|((with_reducible apply G.a);exact rfl)|refine G.reg fun K hK=>?_|(with_reducible (refine hK _ _ ?_);clear hK K)|(have hk:=hK;clear hk;simp (disch:=first|exact dis|fail) only [push_cast,↓reduceIte,zq1,zq2,zq3,zq4,zq5,fct])|(refine zbsl ?_;intro gb wb hS)|(refine G.cn ?_ ?_<;>intro hc<;>first|(with_reducible exact False.elim hc)|(exfalso;omega)|skip)))<;>(try clear fct)
    all_goals
      (first|refine G.r1 ?_|refine G.r2 ?_|refine G.r3 ?_|refine G.r0 ?_|refine G.d0 ?_);(try simp (disch:=first|exact dis|fail) only [push_cast,↓reduceIte,zq1,zq2,zq3,zq4,zq5,fct])
      (first|exact Sep.xt (by assumption)|exact ⟨rfl,Sep.xt (by assumption)⟩)
  · rw [if_neg h]
    have hu:IntKind.u8.wrap (97+n - 10)=97+n - 10:=u8_id (by omega)
    (have fct:=@hu;repeat' (first|((with_reducible apply G.a);exact rfl)|refine G.reg fun K hK=>?_|(with_reducible (refine hK _ _ ?_);clear hK K)|(have hk:=hK;clear hk;simp (disch:=first|exact dis|fail) only [push_cast,↓reduceIte,zq1,zq2,zq3,zq4,zq5,fct])|(refine zbsl ?_;intro gb wb hS)|(refine G.cn ?_ ?_<;>intro hc<;>first|(with_reducible exact False.elim hc)|(exfalso;omega)|skip)))<;>(try clear fct)
    all_goals
      (first|refine G.r1 ?_|refine G.r2 ?_|refine G.r3 ?_|refine G.r0 ?_|refine G.d0 ?_);(try simp (disch:=first|exact dis|fail) only [push_cast,↓reduceIte,zq1,zq2,zq3,zq4,zq5,fct])
      (first|exact Sep.xt (by assumption)|exact ⟨rfl,Sep.xt (by assumption)⟩)
def c24:MC:=(.seq (.reg [qq 1 (.raw (.box 44 (.tmp 0)) 0),qq 2 (.mv (.const (S [])))]) (.seq (.reg [qq 4 (.bld [(S []),(S []),(S []),(S [])] [⟨0,⟨1,(.const (S []))⟩⟩,⟨1,⟨1,(.const (S [108,102]))⟩⟩,⟨2,⟨1,(.const (S [99,114,108,102]))⟩⟩,⟨3,⟨1,(.const (S [101,105,116,104,101,114]))⟩⟩]),qq 5 (.fad 2 (.tmp 1)),qq 6 (.ld none (.tmp 5)),qq 7 (.raw (.index 83 (.tmp 4) (.tmp 6)) 9),qm 3 7]) (.seq (.drg [qq 8 (.fad 0 (.tmp 1)),qq 9 (.ld none (.tmp 8)),qq 10 (.bin .quo (.tmp 9) (ki 16)),qq 11 (.call 40 [(.tmp 10)]),qq 12 (.fad 0 (.tmp 1)),qq 13 (.ld none (.tmp 12)),qq 14 (.bin .rem (.tmp 13) (ki 16)),qq 15 (.call 40 [(.tmp 14)]),qq 16 (.bin .add (.tmp 11) (.tmp 15)),qq 17 (.bin .add (.tmp 16) (.const (S [32]))),qq 18 (.fad 1 (.tmp 1)),qq 19 (.ld none (.tmp 18)),qq 20 (.bin .quo (.tmp 19) (ki 16)),qq 21 (.call 40 [(.tmp 20)]),qq 22 (.bin .add (.tmp 17) (.tmp 21)),qq 23 (.fad 1 (.tmp 1)),qq 24 (.ld none (.tmp 23)),qq 25 (.bin .rem (.tmp 24) (ki 16)),qq 26 (.call 40 [(.tmp 25)]),qq 27 (.bin .add (.tmp 22) (.tmp 26)),qq 28 (.bin .add (.tmp 27) (.const (S [32]))),qm 29 3,qq 30 (.bin .add (.tmp 28) (.tmp 29)),qm 2 30] none) .ret)))
theorem k24:conv Tryz.prog 31 (Tryz.f24.body.getD .skip)=c24:=by kernel_rfl
theorem in24 {a0:Value} {w:World} {R:Value→World→Prop} (h:G Tryz.prog Tryz.f24 31 [.c c24] R (frL 0 [a0]) w):Ret Tryz.prog 24 #[a0] w R:=G.enter (args:=[a0]) Tryz.func24 (c:=Tryz.f24.body.getD .skip) (by kernel_rfl) (by kernel_rfl) (by simp) k24 h
theorem rtext01_spec (d:Dl) (hd:byD d) (hr:rightD d=true) (w:World):Pu Tryz.prog 24 #[(.agg #[I d.dl,I d.q,I d.e])] w (S (txD d)):=by
  refine in24 ?_
  have hS:=Sep.start w
  obtain ⟨a,b,c,e⟩:=hd
  have he:=right_e hr
  have hw:([S [],S [108,102],S [99,114,108,102],S [101,105,116,104,101,114]]:List Value).getD d.e.toNat undef=S (wdE d.e):=by
    rcases he with he|he|he<;>rw [he]<;>rfl
  have hwl:(wdE d.e).length≤6:=by unfold wdE;split<;>(try split)<;>simp
  (have fct:=@hw;repeat' (first|((with_reducible apply G.a);exact rfl)|refine G.reg fun K hK=>?_|(with_reducible (refine hK _ _ ?_);clear hK K)|(with_reducible (refine hK _ ?_);clear hK K;intro wd hxd;have hS:=Sep.xx hxd)|(have hk:=hK;clear hk;simp (disch:=first|exact dis|fail) only [push_cast,↓reduceIte,zq1,zq2,zq3,zq4,zq5,fct])|(((with_reducible refine gBox ?_);refine zbox ?_);intro gb wb hS)|(refine idxSK (k:=d.e.toNat) (n:=4) ?_ (by omega) (by omega) (by rfl) (by kernel_rfl))|((with_reducible (show CallQ _ 40 [I _] _ _ _ _));refine zcq 40 (fun w2 hw2=>rdig01_spec _ (by omega) (by omega) _) ?_)|refine G.drg mixed fun K hK=>?_))<;>(try clear fct)
  all_goals
    (first|refine G.r1 ?_|refine G.r2 ?_|refine G.r3 ?_|refine G.r0 ?_|refine G.d0 ?_);(try simp (disch:=first|exact dis|fail) only [push_cast,↓reduceIte,zq1,zq2,zq3,zq4,zq5,fct])
    (first|exact Sep.xt (by assumption)|exact ⟨rfl,Sep.xt (by assumption)⟩)
end Go.Proofs.YtllanbmpacgigaaGreatDoor
