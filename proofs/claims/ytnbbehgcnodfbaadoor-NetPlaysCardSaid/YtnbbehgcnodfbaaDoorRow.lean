/-
  How an argument is read that is a slice of bytes. No program in sight.
-/
import Derived.Test.YtnbbehgcnodfbaaDoorFrame
import Derived.ChangeSlices
namespace Go.Proofs.YtnbbehgcnodfbaaDoor
open Go.ChangeShapes Go.WideShapes Go.ChangeAt Go.RowKit
set_option maxRecDepth 100000
set_option linter.unusedVariables false

/-- The value is a slice of these bytes, as they lie in this world. -/
def RdRow (l : List Nat) (v : Value) (w : World) : Prop :=
  ((∃ p cap, v = .slice p 0 cap) ∧ l = []) ∨ ∃ b off cap, v = .slice (some ⟨b, off, none⟩) l.length cap ∧ w.rangeAt b off (ints .u8 l).toList
theorem RdRow.below {l : List Nat} {v : Value} {w w1 : World} (h : RdRow l v w) (hb : Below w.heap.size w w1) : RdRow l v w1 := by
  rcases h with h | ⟨b, off, cap, h1, h2⟩
  · exact .inl h
  · exact .inr ⟨b, off, cap, h1, range_below h2 hb⟩
theorem RdRow.len {l : List Nat} {v : Value} {w : World} (h : RdRow l v w) : ∃ p cap, v = .slice p l.length cap := by
  rcases h with ⟨⟨p, cap, rfl⟩, rfl⟩ | ⟨b, off, cap, rfl, -⟩
  · exact ⟨_, _, rfl⟩
  · exact ⟨_, _, rfl⟩
theorem RdRow.at {l : List Nat} {p : Option Addr} {n cap : Nat} {w : World} {j : Nat} (h : RdRow l (.slice p n cap) w) (hj : j < l.length) : ∃ b off, p = some ⟨b, off, none⟩ ∧ ∀ w1, Below w.heap.size w w1 → w1.cell? ⟨b, off + j, none⟩ = some (.int .u8 (l.getD j 0 : Nat)) := by
  rcases h with ⟨-, rfl⟩ | ⟨b, off, cap', h1, h2⟩
  · simp at hj
  · injection h1 with h1
    refine ⟨b, off, h1, fun w1 hb => range_below h2 hb j _ ?_⟩
    rw [Array.getElem?_toList]
    exact ints_get? _ _ _ hj

section
variable {H : Type} {enc : TypeId × Value → H} {P : Program} {w : World} {base : Nat} {spare : Nat → Bool} {held : Bool}
theorem open_row {t e : Nat} {v : Value} {d : DataW H} {p : List MemPlace} (ht : P.underlying t = some (.slice e)) (he : P.underlying e = some (.int .u8)) (hce : P.cellsOf e = 1)
    {b0 : Nat} (hv : Value.okWide P w .any b0 t v) (h : DataW.Trod enc P w base spare held t v d p) : ∃ l : List Nat, RdRow l v w ∧ Digs 256 l ∧ l.length ≤ maxLen := by
  obtain ⟨a0, len0, cap0, rfl⟩ := okWide_slice ht hv
  obtain ⟨fuel, hf⟩ := h
  rcases open_ints ht he hce hf with ⟨h0, -⟩ | ⟨a, len, cap, zs, hcs, -, hl, hm, hlen, -, hel, hwf⟩
  · simp [Value.cells] at h0
    obtain ⟨rfl, rfl, rfl⟩ := h0
    exact ⟨[], .inl ⟨⟨_, _, rfl⟩, rfl⟩, Digs.nil, Nat.zero_le _⟩
  · simp [Value.cells] at hcs
    obtain ⟨rfl, rfl, rfl⟩ := hcs
    have hzl : len0 ≤ zs.length := by rw [hlen]; split <;> omega
    rcases Nat.eq_zero_or_pos len0 with rfl | hpos
    · exact ⟨[], .inl ⟨⟨_, _, rfl⟩, rfl⟩, Digs.nil, Nat.zero_le _⟩
    · have h0 := hel 0 (by omega)
      have hsp : a.spot = none := by
        have : a.add 0 = a := rfl
        rw [this] at h0
        exact World.cell?_spot h0
      obtain ⟨b, off, sp⟩ := a
      simp only at hsp
      subst hsp
      have hll : ((zs.take len0).map Int.toNat).length = len0 := by rw [List.length_map, List.length_take]; omega
      refine ⟨(zs.take len0).map Int.toNat, .inr ⟨b, off, cap0, by rw [hll], fun j v hj => ?_⟩, fun x hx => ?_, by rw [hll]; omega⟩
      · have hj1 : j < len0 := by
          have := (List.getElem?_eq_some_iff.1 hj).1
          have e : (ints .u8 ((zs.take len0).map Int.toNat)).toList.length = len0 := by rw [← hll]; simp [ints]
          rwa [e] at this
        have hc := hel j (by omega)
        rw [addr_add] at hc
        have hz := bounds_u8 (hwf (zs[j]'(by omega)) (List.getElem_mem _))
        have hg : zs.getD j 0 = zs[j]'(by omega) := by simp [List.getD, show j < zs.length by omega]
        rw [hc, hg, ← hj, Array.getElem?_toList]
        rw [ints_get? .u8 ((zs.take len0).map Int.toNat) j (by rw [hll]; exact hj1)]
        congr 2
        simp [List.getD, hj1, show j < zs.length by omega]
        omega
      · obtain ⟨z, hz, rfl⟩ := List.mem_map.1 hx
        have := bounds_u8 (hwf z (List.mem_of_mem_take hz))
        omega
end
end Go.Proofs.YtnbbehgcnodfbaaDoor
