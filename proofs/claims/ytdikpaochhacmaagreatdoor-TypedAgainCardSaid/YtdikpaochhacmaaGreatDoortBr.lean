/- Texts of the proof, joined. -/
import Derived.Lib.Builder
import Derived.Lib.UnsafeStr
import Derived.Laws.Externs
import Derived.LaidEql
import Derived.Test.YtdikpaochhacmaaGreatDoortMc
namespace Go.Proofs.YtdikpaochhacmaaGreatDoor
set_option linter.unusedSimpArgs false
set_option linter.unusedVariables false
open Go.RowKit
section
variable {P : Program} {K : Fr → World → Prop} {rest : List ML} {ρ : Fr} {w w0 : World} {d : Option Nat} {next : Fr → World → Prop} {L L' R : List Chk} {t ty e : TypeId} {v : Value} {g : Nat} {cs : List Value}
theorem O_usd (x : Operand) (ts : Array TypeId) : O P K (⟨none, d, .raw (.call ⟨.builtin .unsafeSliceData, #[x], ts⟩) ty⟩ :: rest) ρ w = SemK P (Builtin.unsafeSliceData_ ts ty #[ev ρ x]) w d ρ (O P K rest) := by
  rw [O_raw]; exact rawV (by simp [execOp, resolve, invoke, builtin])
theorem O_ust (x y : Operand) (ts : Array TypeId) : O P K (⟨none, d, .raw (.call ⟨.builtin .unsafeString, #[x, y], ts⟩) ty⟩ :: rest) ρ w = SemK P (Builtin.unsafeString_ ts ty #[ev ρ x, ev ρ y]) w d ρ (O P K rest) := by
  rw [O_raw]; exact rawV (by simp [execOp, resolve, invoke, builtin])
theorem eqSelf_n {x y : Operand} {a : Addr} {e : TypeId} (hu : PtT P t e) (hj : ∃ j, P.info? e = some j) (h : next (updO ρ d (.bool false)) w) : SemK P (do eqGuard .neq t x y (.pointer (some a)) (.pointer (some a)); binOp .neq t (.pointer (some a)) (.pointer (some a))) w d ρ next := by
  obtain ⟨j, hj⟩ := hj
  have e0 : ∀ dd, (Op.equalIn (dd + 1) t (.pointer (some a)) (.pointer (some a))).run P w = .ok true w := fun dd => by
    simp only [Op.equalIn, Sem.run_bind, run_underlying hu.u, Result.andThen_ok]
    by_cases h0 : j.size = 0
    · simp [sizeOf, typeInfo, hj, h0]
    · simp [sizeOf, typeInfo, hj, h0, run_sameAddr_same]
  have h1 : (Op.equal t (.pointer (some a)) (.pointer (some a))).run P w = .ok true w := by simpa [Op.equal, Op.maxDepth] using e0 9999
  exact ⟨_, w, by simp [eqGuard, binOp, h1], h⟩
theorem blk_shape (h : Blk w g t cs.toArray) : w.shape? g = some (t, cs.length) := by
  unfold Blk at h
  simp [World.shape?, h]
theorem zas {xs : List UInt8} {s : Str} {tx : TypeId} {bt : Nat} {zs : List Value} {R : Value → List Chk} (k : ∀ v' w', Sep w0 w' (R v') → next (updO ρ d v') w') (hx : Tryz.prog.underlying tx = some .string) (hS : Sep w0 w L := by assumption) (hu : ∀ v', Up (accC v e eU xs) (accC v' e eU (xs ++ s)) L (R v') := by intro v'; repeat constructor) (hT : SlT Tryz.prog t e 1 bt zs := by exact dsl)
    (h63 : ((xs.length + s.length) + (xs.length + s.length) / 4 + 192) * bt ≤ 281474976710656 := by exact dl) (h64 : xs.length + s.length ≤ 1000000000000000 := by exact dl) : SemK Tryz.prog (Builtin.append_ #[t, tx] ty #[v, S s]) w d ρ next := appS hS hu hT hx h63 h64 k
end
def noC : Chk where
  ok _ F := ∀ b, ¬ F b
  loc := fun _ h => h
theorem Ex.no {c : Chk} {L R : List Chk} (h : Ex c L R) : ∃ L', Up c noC L L' ∧ Ex noC L' R := by
  induction h with
  | h => exact ⟨_, .h, .h⟩
  | t _ ih => obtain ⟨L', a, b⟩ := ih; exact ⟨_, .t a, .t b⟩
theorem freeze_parts (w : World) (a : Addr) (n : Nat) : (w.freeze a n).heap.size = w.heap.size ∧ (w.freeze a n).os = w.os ∧ (w.freeze a n).tape = w.tape ∧ (w.freeze a n).output = w.output ∧ ∀ b, b ≠ a.block → (w.freeze a n).heap[b]? = w.heap[b]? := by
  unfold World.freeze
  split
  · exact ⟨rfl, rfl, rfl, rfl, fun _ _ => rfl⟩
  · refine ⟨by simp, rfl, rfl, rfl, fun b hb => ?_⟩
    simp [Array.getElem?_modify, Ne.symm hb]
theorem eU_take {xs : Str} {j : Nat} {x : UInt8} (h : xs[j]? = some x) : (xs.flatMap eU.f)[j]? = some (.int .u8 x.toNat) := by
  rw [← byte_flat, List.getElem?_map, h]; rfl
section
variable {P : Program} {ρ : Fr} {w w0 : World} {d : Option Nat} {next : Fr → World → Prop} {L R : List Chk} {tu ty pt it : TypeId} {bv : Value} {xs : Str} {ts : Array TypeId}
theorem zusd (k : ∀ q w', Sep w0 w' L → (xs ≠ [] → ∃ g cap, bv = .slice (some ⟨g, 0, none⟩) xs.length cap ∧ q = some ⟨g, 0, none⟩) → next (updO ρ d (.pointer q)) w') (hS : Sep w0 w L) (he : Ex (accC bv tu eU xs) L R) {e : TypeId} (hp : P.underlying ty = some (.pointer e)) : SemK P (Builtin.unsafeSliceData_ ts ty #[bv]) w d ρ next := by
  obtain ⟨F, ⟨h1, h2, h3, h4⟩, hF⟩ := hS.get he
  rcases h1.2 with ⟨rfl, h0⟩ | ⟨g, cap, cur, rfl, hbg, hg, hnc, hcm, hcs, htake⟩
  · exact ⟨_, w, Lib.run_unsafeSliceData_nil w ts ty 0 0, k _ _ hS fun hx => absurd (List.eq_nil_of_length_eq_zero h0) hx⟩
  · by_cases hc : cap = 0
    · subst hc
      have hx : xs = [] := List.eq_nil_of_length_eq_zero (by omega)
      subst hx
      refine ⟨_, _, Lib.run_unsafeSliceData_zero w ts ty e hp ⟨g, 0, none⟩ 0 (tu, cur.size) (by simp [World.shape?, hg]), k _ _ (hS.ext ((Ext.refl w).alloc _)) fun h => absurd rfl h⟩
    · exact ⟨_, w, Lib.run_unsafeSliceData_row w ts ty _ _ _ hc, k _ _ hS fun _ => ⟨g, cap, rfl, rfl⟩⟩
theorem zust {q : Option Addr} (k : ∀ w', Sep w0 w' R → next (updO ρ d (S xs)) w') (hS : Sep w0 w L) (he : Ex (accC bv tu eU xs) L R) (hq : xs ≠ [] → ∃ g cap, bv = .slice (some ⟨g, 0, none⟩) xs.length cap ∧ q = some ⟨g, 0, none⟩) (hp : P.underlying pt = some (.pointer tu)) (hc : P.cellsOf tu = 1) :
    SemK P (Builtin.unsafeString_ #[pt, it] ty #[.pointer q, I xs.length]) w d ρ next := by
  by_cases hx : xs = []
  · subst hx
    exact ⟨_, w, Lib.run_unsafeString_none w pt it ty q, k _ (hS.drop he)⟩
  · obtain ⟨g, cap, rfl, rfl⟩ := hq hx
    obtain ⟨F, ⟨h1, h2, h3, h4⟩, hF⟩ := hS.get he
    have hcell : ∀ j x, xs[j]? = some x → w.cell? ((⟨g, 0, none⟩ : Addr).add j) = some (.int .u8 x.toNat) := fun j x hj => h1.cells (g := g) rfl j _ (eU_take hj)
    rcases h1.2 with ⟨hv, _⟩ | ⟨g', cap', cur, hv, hbg, hg, hnc, hcm, hcs, htake⟩
    · simp at hv
    simp only [Value.slice.injEq, Option.some.injEq, Addr.mk.injEq, and_true] at hv
    obtain ⟨rfl, _, rfl⟩ := hv
    have hsz : cur.size = cap := by rw [hcs]; exact Nat.mul_one _
    refine ⟨_, _, Lib.run_unsafeString_row w pt it ty tu hp hc g cur.size (by simp [World.shape?, hg]) xs hx (by omega) h4 hcell, k _ ?_⟩
    obtain ⟨s1, s2, s3, s4, s5⟩ := freeze_parts w ⟨g, 0, none⟩ xs.length
    obtain ⟨L', hu, hd⟩ := he.no
    refine Sep.drop (hS.change hu (by omega) s2 s3 s4 ?_) hd
    rintro F' ⟨a1, a2, a3, a4⟩ hF'
    exact ⟨fun _ => False, fun b => id, fun b hb => hb.elim, fun b _ hb => s5 b fun e => hb (by rw [e]; exact a2 g rfl)⟩
end
theorem u8_cells : Tryz.prog.cellsOf 5 = 1 := by kernel_rfl
theorem u8_ptr : Tryz.prog.underlying 200 = some (.pointer 5) := by kernel_rfl
theorem bld_info : (Tryz.prog.info? 165).map (·.size) = some 2 := by kernel_rfl
theorem bld_has : ∃ j, Tryz.prog.info? 165 = some j := by
  obtain ⟨j, hj, _⟩ := Option.map_eq_some_iff.1 bld_info
  exact ⟨j, hj⟩
theorem bld_lies : liesAt Tryz.prog Tryz.prog.depth 165 (2 / Tryz.prog.cellsOf 165) 0 165 1 = true := by kernel_rfl
theorem bld_ptr : Tryz.prog.underlying 162 = some (.pointer 165) := by kernel_rfl
theorem bld_uns : Tryz.prog.underlying 224 = some .unsafePointer := by kernel_rfl
section
variable {ρ : Fr} {w w0 : World} {d : Option Nat} {next : Fr → World → Prop} {L R : List Chk} {g : Nat} {cs : List Value}
theorem cv_to (hB : Blk w g 165 cs.toArray) (hc : cs.length = 2) (h : next (updO ρ d (.pointer (some ⟨g, 0, none⟩))) w) : SemK Tryz.prog (convert 162 224 (.pointer (some ⟨g, 0, none⟩))) w d ρ next := by
  obtain ⟨j, hj, hjs⟩ := Option.map_eq_some_iff.1 bld_info
  exact ⟨_, w, Lib.run_to_unsafe w ⟨g, 0, none⟩ bld_ptr bld_uns hj (by rw [hjs]; decide) (blk_shape hB) (by show 0 < cs.length; rw [hc]; decide), h⟩
theorem cv_from (hB : Blk w g 165 cs.toArray) (hc : cs.length = 2) (h : next (updO ρ d (.pointer (some ⟨g, 0, none⟩))) w) : SemK Tryz.prog (convert 224 162 (.pointer (some ⟨g, 0, none⟩))) w d ρ next := by
  obtain ⟨j, hj, hjs⟩ := Option.map_eq_some_iff.1 bld_info
  refine ⟨_, w, Lib.run_from_unsafe w ⟨g, 0, none⟩ bld_uns bld_ptr hj (blk_shape hB) ?_, h⟩
  show liesAt Tryz.prog Tryz.prog.depth 165 (cs.length / Tryz.prog.cellsOf 165) 0 165 1 = true
  rw [hc]; exact bld_lies
theorem O_noe {K : Fr → World → Prop} {rest : List ML} {ty : TypeId} {ts : Array TypeId} (x : Operand) : O Tryz.prog K (⟨none, d, .raw (.call ⟨.value (.func 130), #[x], ts⟩) ty⟩ :: rest) ρ w = SemK Tryz.prog (pure (ev ρ x)) w d ρ (O Tryz.prog K rest) := by
  rw [O_raw]
  have hr : (execOp (ev ρ) (opr (.call ⟨.value (.func 130), #[x], ts⟩) ty)).run Tryz.prog w = .ok (.value (ev ρ x)) w := by
    have h1 := run_callFunc_extern Tryz.func130 (by kernel_rfl) (by kernel_rfl) (by kernel_rfl) (e := Extern.AbiNoEscape.same) (by kernel_rfl) #[ev ρ x] w
    simp only [Lib.run_noEscape, Result.andThen_ok] at h1
    have hE : execOp (ev ρ) (opr (.call ⟨.value (.func 130), #[x], ts⟩) ty) = callFunc 130 #[ev ρ x] := by
      simp [execOp, resolve, Deferred.ofValue, invoke, ev]
    rw [hE, h1]
  apply propext
  constructor
  · rintro (⟨v, w', h1, h2⟩ | ⟨w', h1, h2⟩ | ⟨f', args', w', h1, h2⟩)
    · rw [hr] at h1; simp at h1; obtain ⟨rfl, rfl⟩ := h1; exact ⟨_, _, rfl, h2⟩
    · rw [hr] at h1; simp at h1
    · rw [hr] at h1; simp at h1
  · rintro ⟨v, w', h1, h2⟩
    simp at h1; obtain ⟨rfl, rfl⟩ := h1
    exact .inl ⟨_, _, hr, h2⟩
theorem pureK {v : Value} (h : next (updO ρ d v) w) : SemK Tryz.prog (pure v) w d ρ next := ⟨v, w, rfl, h⟩
end
end Go.Proofs.YtdikpaochhacmaaGreatDoor
