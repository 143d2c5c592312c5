/- A text of the bytes of a block. -/
import Derived.Test.YtdhieolfdlkeaaaNj
namespace Go.Proofs.Ytdhieolfdlkeaaa
set_option linter.unusedSimpArgs false
set_option linter.unusedVariables false
open Go.RowKit
section
variable {w : World} {g : Nat} {t : TypeId} {a b : Int} {cap : Nat} {v : Value} {xs : Str}
theorem b2s_rd (h : Rd w eU v xs) : okB2s w v ∧ b2sV w v = S xs := by
  obtain ⟨p, cap, rfl, h1, h2, h3, h4⟩ := h
  cases p with
  | none =>
    have : xs = [] := List.eq_nil_of_length_eq_zero (by
      apply Nat.eq_zero_of_not_pos
      intro hp
      obtain ⟨a, ha, _⟩ := h4 hp
      simp at ha)
    subst this
    exact ⟨trivial, rfl⟩
  | some p =>
    have hc : ∀ j (hj : j < xs.length), w.cell? (p.add j) = some (.int .u8 (xs[j].toNat : Int)) := by
      intro j hj
      obtain ⟨a, ha, h5⟩ := h4 (by omega)
      simp only [Option.some.injEq] at ha
      subst ha
      refine h5 j _ ?_
      rw [← byte_flat, List.getElem?_map, List.getElem?_eq_getElem hj]; rfl
    refine ⟨fun j hj => ⟨_, hc j hj⟩, ?_⟩
    simp only [b2sV]
    congr 1
    apply List.ext_getElem
    · simp
    · intro j h1 h2
      simp only [List.getElem_map, List.getElem_range]
      rw [hc j h2]
      simp [byteOfV]
theorem okB2s_rd (h : Rd w eU v xs) : okB2s w v = True := eq_true (b2s_rd h).1
theorem b2sV_rd (h : Rd w eU v xs) : b2sV w v = S xs := (b2s_rd h).2
theorem blk_add (h : Blk w g t [.int .u8 a, .int .u8 b].toArray) : w.cell? ((⟨g, 0, none⟩ : Addr).add 0) = some (.int .u8 a) ∧ w.cell? ((⟨g, 0, none⟩ : Addr).add 1) = some (.int .u8 b) := by
  unfold Blk at h
  constructor <;> simp [World.cell?, Addr.add, h]
theorem okB2s_b2 (h : Blk w g t [.int .u8 a, .int .u8 b].toArray) : okB2s w (.slice (some ⟨g, 0, none⟩) 2 cap) = True := by
  apply eq_true
  intro j hj
  obtain ⟨h0, h1⟩ := blk_add h
  have : j = 0 ∨ j = 1 := by omega
  rcases this with rfl | rfl
  · exact ⟨_, h0⟩
  · exact ⟨_, h1⟩
theorem b2sV_b2 (h : Blk w g t [.int .u8 a, .int .u8 b].toArray) : b2sV w (.slice (some ⟨g, 0, none⟩) 2 cap) = S [UInt8.ofNat a.toNat, UInt8.ofNat b.toNat] := by
  obtain ⟨h0, h1⟩ := blk_add h
  simp only [b2sV, show List.range 2 = [0, 1] from rfl, List.map_cons, List.map_nil, h0, h1]
  rfl
theorem okB2s_b1 (h : Blk w g t [.int .u8 a].toArray) : okB2s w (.slice (some ⟨g, 0, none⟩) 1 cap) = True := by
  apply eq_true
  intro j hj
  have : j = 0 := by omega
  subst this
  unfold Blk at h
  exact ⟨a, by simp [World.cell?, Addr.add, h]⟩
theorem b2sV_b1 (h : Blk w g t [.int .u8 a].toArray) : b2sV w (.slice (some ⟨g, 0, none⟩) 1 cap) = S [UInt8.ofNat a.toNat] := by
  unfold Blk at h
  simp only [b2sV, show List.range 1 = [0] from rfl, List.map_cons, List.map_nil]
  simp [World.cell?, Addr.add, h, byteOfV]
theorem ofn_nat (c : UInt8) : UInt8.ofNat c.toNat = c := UInt8.ofNat_toNat
end
attribute [push_cast] okB2s_rd b2sV_rd okB2s_b2 b2sV_b2 okB2s_b1 b2sV_b1 ofn_nat
end Go.Proofs.Ytdhieolfdlkeaaa
