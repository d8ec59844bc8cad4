/-
  How arguments are read that are slices of bytes, with room told, and slices of such slices. No program in sight.
-/
import Derived.Test.YtnbbehgcnodfbaaDoorSli
namespace Go.Proofs.YtnbbehgcnodfbaaDoor
open Go.ChangeShapes Go.WideShapes Go.ChangeAt Go.RowKit
set_option maxRecDepth 100000
set_option linter.unusedVariables false

/-- The value is a slice of slices of these numbers. -/
def RdSs (k : IntKind) (rows : List (List Nat)) (v : Value) (w : World) : Prop :=
  ∃ p cap, v = .slice p rows.length cap ∧ rows.length ≤ cap ∧ (rows = [] ∨ ∃ b off, p = some ⟨b, off, none⟩ ∧ ∀ j, (h : j < rows.length) → ∃ u, w.cell? ⟨b, off + j, none⟩ = some u ∧ RdS k rows[j] u w)
theorem RdSs.below {k : IntKind} {rows : List (List Nat)} {v : Value} {w w1 : World} (h : RdSs k rows v w) (hb : Below w.heap.size w w1) : RdSs k rows v w1 := by
  obtain ⟨p, cap, h1, h2, h3⟩ := h
  refine ⟨p, cap, h1, h2, h3.imp id fun ⟨b, off, h4, h5⟩ => ⟨b, off, h4, fun j hj => ?_⟩⟩
  obtain ⟨u, hu, hr⟩ := h5 j hj
  exact ⟨u, (hb.cell (World.block_lt_of_cell? _ _ hu)).trans hu, hr.below hb⟩
theorem RdSs.nil (k : IntKind) (w : World) : RdSs k [] (.slice none 0 0) w := ⟨none, 0, rfl, Nat.le_refl _, .inl rfl⟩
theorem RdSs.at {k : IntKind} {rows : List (List Nat)} {p : Option Addr} {n cap : Nat} {w : World} {j : Nat} (h : RdSs k rows (.slice p n cap) w) (hj : j < rows.length) :
    ∃ b off u, p = some ⟨b, off, none⟩ ∧ (∀ w1, Below w.heap.size w w1 → w1.cell? ⟨b, off + j, none⟩ = some u) ∧ RdS k rows[j] u w := by
  obtain ⟨p', cap', h1, h2, h3⟩ := h
  injection h1 with h1 _ _
  subst h1
  rcases h3 with rfl | ⟨b, off, h4, h5⟩
  · simp at hj
  · obtain ⟨u, hu, hr⟩ := h5 j hj
    exact ⟨b, off, u, h4, fun w1 hb => (hb.cell (World.block_lt_of_cell? _ _ hu)).trans hu, hr⟩

section
variable {H : Type} {enc : TypeId × Value → H} {P : Program} {w : World} {base : Nat} {spare : Nat → Bool} {held : Bool}
theorem trod_bytes {t e fuel : Nat} {cs : List Value} {x : DataW H × List MemPlace} (ht : P.underlying t = some (.slice e)) (he : P.underlying e = some (.int .u8)) (hce : P.cellsOf e = 1)
    (h : DataW.trod enc P w base spare held fuel t cs = some x) : ∃ (l : List Nat) (v : Value), cs = [v] ∧ RdS .u8 l v w ∧ Digs 256 l ∧ l.length ≤ maxLen := by
  rcases open_ints ht he hce h with ⟨h0, -⟩ | ⟨a, len0, cap0, zs, hcs, -, hl, hm, hlen, -, hel, hwf⟩
  · exact ⟨[], _, h0, RdS.nil _ _, Digs.nil, Nat.zero_le _⟩
  · have hzl : len0 ≤ zs.length := by rw [hlen]; split <;> omega
    rcases Nat.eq_zero_or_pos len0 with rfl | hpos
    · exact ⟨[], _, hcs, ⟨_, _, rfl, Nat.zero_le _, .inl rfl⟩, Digs.nil, Nat.zero_le _⟩
    · have h0 := hel 0 (by omega)
      have hsp : a.spot = none := by
        have : a.add 0 = a := rfl
        rw [this] at h0
        exact World.cell?_spot h0
      obtain ⟨b, off, sp⟩ := a
      simp only at hsp
      subst hsp
      have hll : ((zs.take len0).map Int.toNat).length = len0 := by rw [List.length_map, List.length_take]; omega
      refine ⟨(zs.take len0).map Int.toNat, _, hcs, ⟨_, _, by rw [hll], by rw [hll]; exact hl, .inr ⟨b, off, rfl, fun j v hj => ?_⟩⟩, fun x hx => ?_, by rw [hll]; omega⟩
      · have hj1 : j < len0 := by
          have := (List.getElem?_eq_some_iff.1 hj).1
          have e : (ints .u8 ((zs.take len0).map Int.toNat)).toList.length = len0 := by rw [← hll]; simp [ints]
          rwa [e] at this
        have hc := hel j (by omega)
        rw [addr_add] at hc
        have hz := bounds_u8 (hwf (zs[j]'(by omega)) (List.getElem_mem _))
        have hg : zs.getD j 0 = zs[j]'(by omega) := by simp [List.getD, show j < zs.length by omega]
        rw [hc, hg, ← hj, Array.getElem?_toList]
        rw [ints_get? .u8 ((zs.take len0).map Int.toNat) j (by rw [hll]; exact hj1)]
        congr 2
        simp [List.getD, hj1, show j < zs.length by omega]
        omega
      · obtain ⟨z, hz, rfl⟩ := List.mem_map.1 hx
        have := bounds_u8 (hwf z (List.mem_of_mem_take hz))
        omega
theorem open_bytes {t e : Nat} {v : Value} {d : DataW H} {p : List MemPlace} (ht : P.underlying t = some (.slice e)) (he : P.underlying e = some (.int .u8)) (hce : P.cellsOf e = 1)
    {b0 : Nat} (hv : Value.okWide P w .any b0 t v) (h : DataW.Trod enc P w base spare held t v d p) : ∃ l : List Nat, RdS .u8 l v w ∧ Digs 256 l ∧ l.length ≤ maxLen := by
  obtain ⟨a0, len0, cap0, rfl⟩ := okWide_slice ht hv
  obtain ⟨fuel, hf⟩ := h
  obtain ⟨l, v, h1, h2, h3, h4⟩ := trod_bytes ht he hce hf
  simp [Value.cells] at h1
  subst h1
  exact ⟨l, h2, h3, h4⟩
theorem open_slices {t e u : Nat} {v : Value} {d : DataW H} {p : List MemPlace} (ht : P.underlying t = some (.slice e)) (he : P.underlying e = some (.slice u)) (hu : P.underlying u = some (.int .u8)) (hcu : P.cellsOf u = 1) (hce : P.cellsOf e = 1)
    {b0 : Nat} (hv : Value.okWide P w .any b0 t v) (h : DataW.Trod enc P w base spare held t v d p) : ∃ rows : List (List Nat), RdSs .u8 rows v w ∧ (∀ r ∈ rows, Digs 256 r ∧ r.length ≤ maxLen) ∧ rows.length ≤ maxLen := by
  obtain ⟨a0, len0, cap0, rfl⟩ := okWide_slice ht hv
  obtain ⟨fuel, hf⟩ := h
  rcases DataW.trod_slice ht hf with ⟨h0, -⟩ | ⟨a, len, cap, elems, rest, n, -, hcs, -, hb, hl, hm, hlen, hel, -, -⟩
  · simp [Value.cells] at h0
    obtain ⟨rfl, rfl, rfl⟩ := h0
    exact ⟨[], RdSs.nil _ _, (fun r hr => by cases hr), Nat.zero_le _⟩
  · simp [Value.cells] at hcs
    obtain ⟨rfl, rfl, rfl⟩ := hcs
    have key : ∀ i, i < len0 → ∃ (l : List Nat) (z : Value), (∃ b off, a.add i = ⟨b, off, none⟩ ∧ w.cell? ⟨b, off, none⟩ = some z) ∧ RdS .u8 l z w ∧ Digs 256 l ∧ l.length ≤ maxLen := fun i hi => by
      have h1 := hel i hi
      rw [hce, List.getElem?_eq_getElem (by omega), Option.bind_eq_some_iff, Nat.mul_one] at h1
      obtain ⟨cs, hc, h2⟩ := h1
      obtain ⟨l, z, rfl, h3, h4, h5⟩ := trod_bytes he hu hcu h2
      obtain ⟨b, off, h6, h7⟩ := cells_range hc (by decide)
      exact ⟨l, z, ⟨b, off, h6, h7 0 z rfl⟩, h3, h4, h5⟩
    rcases Nat.eq_zero_or_pos len0 with rfl | hpos
    · exact ⟨[], ⟨_, _, rfl, Nat.zero_le _, .inl rfl⟩, (fun r hr => by cases hr), Nat.zero_le _⟩
    · obtain ⟨b, off, ha⟩ : ∃ b off, a = ⟨b, off, none⟩ := by
        obtain ⟨l, z, ⟨b, off, h1, -⟩, -⟩ := key 0 hpos
        exact ⟨b, off, h1⟩
      subst ha
      have all : ∀ n, n ≤ len0 → ∃ rows : List (List Nat), rows.length = n ∧ (∀ j, (h : j < rows.length) → ∃ u, w.cell? ⟨b, off + j, none⟩ = some u ∧ RdS .u8 rows[j] u w) ∧ ∀ r ∈ rows, Digs 256 r ∧ r.length ≤ maxLen := by
        intro n
        induction n with
        | zero => intro _; exact ⟨[], rfl, fun j h => by simp at h, fun r hr => by cases hr⟩
        | succ n ih =>
          intro hn
          obtain ⟨rows, h1, h2, h3⟩ := ih (by omega)
          obtain ⟨l, z, ⟨b', off', h4, h5⟩, h6, h7⟩ := key n (by omega)
          rw [addr_add] at h4
          injection h4 with h4 h4' _
          subst h4 h4'
          refine ⟨rows ++ [l], by simp [h1], fun j hj => ?_, fun r hr => ?_⟩
          · rcases Nat.lt_or_ge j rows.length with hlt | hge
            · rw [List.getElem_append_left hlt]
              exact h2 j hlt
            · have : j = n := by simp at hj; omega
              subst this
              rw [List.getElem_append_right hge]
              simp only [h1, Nat.sub_self, List.getElem_cons_zero]
              exact ⟨z, h5, h6⟩
          · rcases List.mem_append.1 hr with hr | hr
            · exact h3 r hr
            · rw [List.mem_singleton.1 hr]; exact h7
      obtain ⟨rows, h1, h2, h3⟩ := all len0 (Nat.le_refl _)
      subst h1
      exact ⟨rows, ⟨_, _, rfl, by omega, .inr ⟨b, off, rfl, h2⟩⟩, h3, by omega⟩
end
end Go.Proofs.YtnbbehgcnodfbaaDoor
