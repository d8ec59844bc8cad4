/-
  Slices that are read: what they read, a part of one. No condition on the program.
-/
import Derived.Test.YtnbbehgcnodfbaaDoorRow
import Derived.Laws.Slices
namespace Go.Proofs.YtnbbehgcnodfbaaDoor
open Go.RowKit
set_option maxRecDepth 100000
set_option linter.unusedVariables false
set_option linter.unusedSimpArgs false

/-- v is a slice that reads these numbers. -/
def RdS (k : IntKind) (l : List Nat) (v : Value) (w : World) : Prop :=
  ∃ p cap, v = .slice p l.length cap ∧ l.length ≤ cap ∧ (l = [] ∨ ∃ b off, p = some ⟨b, off, none⟩ ∧ w.rangeAt b off (ints k l).toList)
theorem RdS.below {k : IntKind} {l : List Nat} {v : Value} {w w1 : World} (h : RdS k l v w) (hb : Below w.heap.size w w1) : RdS k l v w1 := by
  obtain ⟨p, cap, h1, h2, h3⟩ := h
  refine ⟨p, cap, h1, h2, ?_⟩
  rcases h3 with h3 | ⟨b, off, h4, h5⟩
  · exact .inl h3
  · exact .inr ⟨b, off, h4, range_below h5 hb⟩
theorem RdS.row {l : List Nat} {v : Value} {w : World} (h : RdS .u8 l v w) : RdRow l v w := by
  obtain ⟨p, cap, h1, h2, h3⟩ := h
  rcases h3 with rfl | ⟨b, off, h4, h5⟩
  · exact .inl ⟨⟨p, cap, h1⟩, rfl⟩
  · exact .inr ⟨b, off, cap, by rw [h1, h4], h5⟩
theorem RdS.nil (k : IntKind) (w : World) : RdS k [] (.slice none 0 0) w := ⟨none, 0, rfl, Nat.le_refl _, .inl rfl⟩
theorem RdS.at {k : IntKind} {l : List Nat} {p : Option Addr} {n cap : Nat} {w : World} {j : Nat} (h : RdS k l (.slice p n cap) w) (hj : j < l.length) : ∃ b off, p = some ⟨b, off, none⟩ ∧ ∀ w1, Below w.heap.size w w1 → w1.cell? ⟨b, off + j, none⟩ = some (.int k (l.getD j 0 : Nat)) := by
  obtain ⟨p', cap', h1, h2, h3⟩ := h
  injection h1 with h1 _ _
  subst h1
  rcases h3 with rfl | ⟨b, off, h4, h5⟩
  · simp at hj
  · refine ⟨b, off, h4, fun w1 hb => range_below h5 hb j _ ?_⟩
    rw [Array.getElem?_toList]
    exact ints_get? _ _ _ hj
theorem RdS.of_block {k : IntKind} {l : List Nat} {g : Nat} {T : TypeId} {w : World} (h : w.heap[g]? = some (.cells (ints k l) T (0, 0))) : RdS k l (.slice (some ⟨g, 0, none⟩) l.length l.length) w := by
  refine ⟨_, _, rfl, Nat.le_refl _, .inr ⟨g, 0, rfl, ?_⟩⟩
  have h1 := World.rangeAt_of_block h 0 l.length
  have e : ((ints k l).extract 0 (0 + l.length)).toList = (ints k l).toList := by
    simp [ints]
    exact List.take_of_length_le (by simp)
  rwa [e] at h1

/-- A part of a slice. -/
def slcd (p : Option Addr) (lo hi c : Nat) : Value := .slice (if c = lo then p else p.map (·.add lo)) (hi - lo) (c - lo)
theorem RdS.slcd {k : IntKind} {l : List Nat} {p : Option Addr} {n c : Nat} {w : World} (h : RdS k l (.slice p n c) w) {lo hi : Nat} (h1 : lo ≤ hi) (h2 : hi ≤ n) : RdS k ((l.drop lo).take (hi - lo)) (slcd p lo hi c) w := by
  obtain ⟨p', cap', e1, h3, h4⟩ := h
  injection e1 with e1 e2 e3
  subst e1
  subst e2
  subst e3
  have hl : ((l.drop lo).take (hi - lo)).length = hi - lo := by rw [List.length_take, List.length_drop]; omega
  refine ⟨if c = lo then p else p.map (·.add lo), c - lo, by rw [hl]; rfl, by rw [hl]; omega, ?_⟩
  by_cases hc : c = lo
  · left
    have : hi - lo = 0 := by omega
    rw [this]
    simp
  · rw [if_neg hc]
    rcases h4 with rfl | ⟨b, off, rfl, h5⟩
    · left; simp
    · refine .inr ⟨b, off + lo, by simp [Addr.add], fun j u hj => ?_⟩
      have hjl : j < hi - lo := by
        have := (List.getElem?_eq_some_iff.1 hj).1
        rw [show (ints k ((l.drop lo).take (hi - lo))).toList.length = hi - lo by rw [Array.length_toList, ints_size, hl]] at this
        exact this
      have h6 := h5 (lo + j) u (by
        rw [← hj, Array.getElem?_toList, Array.getElem?_toList]
        unfold ints
        simp only [List.getElem?_toArray, List.getElem?_map, List.getElem?_take, List.getElem?_drop, if_pos hjl])
      rwa [← Nat.add_assoc] at h6

section
variable {P : Program} {a : Act} {w : World} {o : Oper}
theorem v_sliceLH {t e : TypeId} {x y z : Operand} {k k' : IntKind} {p : Option Addr} {n c lo hi : Nat} (ho : o.op = .slice t x (some y) (some z) none) (hx : a.eval x = .slice p n c) (hy : a.eval y = .int k (lo : Int)) (hz : a.eval z = .int k' (hi : Int))
    (ht : P.underlying t = some (.slice e)) (hs : (P.info? e).map (·.size) = some 1) (h1 : lo ≤ hi) (h2 : hi ≤ c) : Val P o a (slcd p lo hi c) w := v_run fun w => by
  unfold execOp
  simp [ho, hx, hy, hz, Instr.sliceAt, Instr.slice, run_underlying ht, size_run hs, Instr.sliceBounds, run_sliceBound, Sem.run_bind, Sem.run_pure, h1, h2, slcd]
theorem v_sliceL {t e : TypeId} {x y : Operand} {k : IntKind} {p : Option Addr} {n c lo : Nat} (ho : o.op = .slice t x (some y) none none) (hx : a.eval x = .slice p n c) (hy : a.eval y = .int k (lo : Int))
    (ht : P.underlying t = some (.slice e)) (hs : (P.info? e).map (·.size) = some 1) (h1 : lo ≤ n) : Val P o a (slcd p lo n c) w := v_run fun w => by
  unfold execOp
  simp [ho, hx, hy, Instr.sliceAt, Instr.slice, run_underlying ht, size_run hs, Instr.sliceBounds, run_sliceBound, Sem.run_bind, Sem.run_pure, h1, slcd]
theorem v_sliceH {t e : TypeId} {x z : Operand} {k' : IntKind} {p : Option Addr} {n c hi : Nat} (ho : o.op = .slice t x none (some z) none) (hx : a.eval x = .slice p n c) (hz : a.eval z = .int k' (hi : Int))
    (ht : P.underlying t = some (.slice e)) (hs : (P.info? e).map (·.size) = some 1) (h2 : hi ≤ c) : Val P o a (slcd p 0 hi c) w := v_run fun w => by
  unfold execOp
  simp [ho, hx, hz, Instr.sliceAt, Instr.slice, run_underlying ht, size_run hs, Instr.sliceBounds, run_sliceBound, Sem.run_bind, Sem.run_pure, h2, slcd]
/-- A part of an array. -/
theorem v_sliceArr {t e : TypeId} {x y z : Operand} {k k' : IntKind} {g n lo hi : Nat} (ho : o.op = .slice t x (some y) (some z) none) (hx : a.eval x = .pointer (some ⟨g, 0, none⟩)) (hy : a.eval y = .int k (lo : Int)) (hz : a.eval z = .int k' (hi : Int))
    (ht : P.underlying t = some (.array n e)) (hs : (P.info? e).map (·.size) = some 1) (h1 : lo ≤ hi) (h2 : hi ≤ n) (h3 : lo < n) : Val P o a (.slice (some ⟨g, lo, none⟩) (hi - lo) (n - lo)) w := v_run fun w => by
  have h4 : ¬ n = lo := by omega
  unfold execOp
  simp [ho, hx, hy, hz, Instr.sliceAt, Instr.sureAddr, run_underlying ht, size_run hs, Instr.sliceBounds, run_sliceBound, Sem.run_bind, Sem.run_pure, h1, h2, h4, Addr.add]
  omega
end
end Go.Proofs.YtnbbehgcnodfbaaDoor
