/-
  Layer 4, the document's answer: a number halved k times.
-/
import Derived.Test.YtlejdddhgnfkdaaFmH
namespace Go.Proofs.Ytlejdddhgnfkdaa
open Go.RowKit
set_option linter.unusedVariables false
set_option linter.unusedSimpArgs false

/-- The number of which the digits from K on have been halved. -/
def halfAt (A K : Nat) : Nat := A % 4294967296 ^ K + 4294967296 ^ K * (A / 4294967296 ^ K / 2)
theorem halfAt_start {A : Nat} (hA : A < big8) : halfAt A 8 = A := by
  unfold halfAt
  rw [← big8_eq, Nat.mod_eq_of_lt hA, Nat.div_eq_of_lt hA]
  omega
theorem halfAt_end (A : Nat) : halfAt A 0 = A / 2 := by
  unfold halfAt
  rw [Nat.pow_zero, Nat.mod_one, Nat.div_one, Nat.zero_add, Nat.one_mul]
theorem halfAt_le (A K : Nat) : halfAt A K ≤ A := by
  unfold halfAt
  have h := Nat.div_add_mod A (4294967296 ^ K)
  have h2 : 4294967296 ^ K * (A / 4294967296 ^ K / 2) ≤ 4294967296 ^ K * (A / 4294967296 ^ K) := Nat.mul_le_mul_left _ (Nat.div_le_self _ _)
  omega
theorem halfAt_digit (A K : Nat) : halfAt A (K + 1) / 4294967296 ^ K % 4294967296 = A / 4294967296 ^ K % 4294967296 := by
  unfold halfAt
  have hP : 0 < 4294967296 ^ K := Nat.pow_pos (by decide)
  rw [mod_digit, Nat.pow_succ, Nat.add_assoc, Nat.mul_assoc (4294967296 ^ K), ← Nat.mul_add, Nat.add_mul_div_left _ _ hP, Nat.div_eq_of_lt (Nat.mod_lt _ hP), Nat.zero_add, Nat.add_mul_mod_self_left, Nat.mod_mod]
theorem halfAt_step {A K a u : Nat} (hA : A < big8) (hK : K < 8) (ha : A / 4294967296 ^ K % 4294967296 = a) (hu : A / 4294967296 ^ (K + 1) % 2 = u) :
    (digs 4294967296 8 (halfAt A (K + 1))).set K (a / 2 + u * 2147483648) = digs 4294967296 8 (halfAt A K) ∧ a / 2 + u * 2147483648 < 4294967296 ∧ A / 4294967296 ^ K % 2 = a % 2 := by
  have ha2 : a < 4294967296 := ha ▸ Nat.mod_lt _ (by decide)
  have hu2 : u < 2 := hu ▸ Nat.mod_lt _ (by decide)
  have hq : A / 4294967296 ^ K = a + 4294967296 * (A / 4294967296 ^ (K + 1)) := by
    rw [← ha, Nat.pow_succ, ← Nat.div_div_eq_div_mul]
    omega
  refine ⟨?_, by omega, by rw [hq]; clear hq; omega⟩
  have hb := big8_eq
  refine digs_set (by decide) hK (hb ▸ Nat.lt_of_le_of_lt (halfAt_le _ _) hA) (hb ▸ Nat.lt_of_le_of_lt (halfAt_le _ _) hA) (by omega) ?_
  rw [halfAt_digit, ha]
  unfold halfAt
  rw [Nat.pow_succ] at hu hq
  rw [mod_digit, ha, Nat.pow_succ, hq]
  generalize A / (4294967296 ^ K * 4294967296) = Q at *
  generalize 4294967296 ^ K = P at *
  have e : (a + 4294967296 * Q) / 2 = a / 2 + 4294967296 * (Q / 2) + 2147483648 * u := by omega
  rw [e]
  simp only [Nat.mul_add, Nat.mul_assoc]
  have e2 : P * (u * 2147483648) = P * (2147483648 * u) := by rw [Nat.mul_comm u]
  omega
end Go.Proofs.Ytlejdddhgnfkdaa
