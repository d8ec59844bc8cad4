/-
  Layer 4, the document's answer: the plain part of the product.
-/
import Derived.Test.YtmebjoehmheknaaFmD
namespace Go.Proofs.Ytmebjoehmheknaa
open Go.RowKit
set_option linter.unusedVariables false
set_option linter.unusedSimpArgs false

/-- The wide row: sixteen digits, of which those from i on are naught. -/
structure Wide (i : Nat) (X : List Nat) : Prop where
  len : X.length = 16
  dg : Digs 4294967296 X
  zero : ∀ j, i ≤ j → X.getD j 0 = 0
theorem Wide.start : Wide 8 (List.replicate 16 0) := ⟨rfl, Digs.replicate (by decide) _, fun j _ => by rw [List.getD_eq_getElem?_getD, List.getElem?_replicate]; split <;> rfl⟩
theorem prod_le {a b : Nat} (ha : a < 4294967296) (hb : b < 4294967296) : a * b ≤ 18446744065119617025 := Nat.mul_le_mul (Nat.le_of_lt_succ ha : a ≤ 4294967295) (Nat.le_of_lt_succ hb : b ≤ 4294967295)
theorem getD_of {X : List Nat} {i x : Nat} (hi : i < X.length) (h : X.getD i 0 = x) : X[i] = x := by
  rw [← h]
  simp [List.getD, hi]

theorem Wide.row {X : List Nat} {K J a b x u s N Mn : Nat} (hW : Wide (K + 8) X) (hK : K < 8) (hJ : J < 8) (hx : X.getD (K + J) 0 = x) (ha : a < 4294967296) (hb : b < 4294967296) (hu : u < 4294967296) (hs : s = x + a * b + u)
    (h : val 4294967296 X + 4294967296 ^ (K + J) * u = Mn + 4294967296 ^ K * (a * N)) :
    Wide (K + 8) (X.set (K + J) (s % 4294967296)) ∧ s / 4294967296 < 4294967296 ∧ val 4294967296 (X.set (K + J) (s % 4294967296)) + 4294967296 ^ (K + (J + 1)) * (s / 4294967296) = Mn + 4294967296 ^ K * (a * (N + 4294967296 ^ J * b)) := by
  have hl : K + J < X.length := by rw [hW.len]; omega
  have hxl : x < 4294967296 := hx ▸ hW.dg.getD (by decide) _
  have hab := prod_le ha hb
  have hv := val_set (B := 4294967296) X (K + J) (s % 4294967296) hl
  rw [getD_of hl hx] at hv
  refine ⟨⟨by rw [List.length_set, hW.len], hW.dg.set _ (Nat.mod_lt _ (by decide)), fun j hj => ?_⟩, by omega, ?_⟩
  · rw [List.getD_eq_getElem?_getD, List.getElem?_set_ne (by omega), ← List.getD_eq_getElem?_getD]
    exact hW.zero j hj
  · have hd : s % 4294967296 + 4294967296 * (s / 4294967296) = x + a * b + u := by rw [← hs]; omega
    have e1 : 4294967296 ^ (K + (J + 1)) = 4294967296 ^ (K + J) * 4294967296 := by rw [← Nat.add_assoc, Nat.pow_succ]
    have e2 : 4294967296 ^ K * (a * (4294967296 ^ J * b)) = 4294967296 ^ (K + J) * (a * b) := by
      rw [Nat.pow_add, Nat.mul_left_comm a, Nat.mul_assoc]
    rw [e1, Nat.mul_add a, Nat.mul_add, e2]
    generalize 4294967296 ^ (K + J) = P at *
    have e3 : P * (s % 4294967296 + 4294967296 * (s / 4294967296)) = P * (x + a * b + u) := by rw [hd]
    simp only [Nat.mul_add] at e3
    rw [← Nat.mul_assoc] at e3
    omega
theorem Wide.leave {X : List Nat} {K a u m n : Nat} (hW : Wide (K + 8) X) (hK : K < 8) (hu : u < 4294967296) (hn : n < big8) (ha : m / 4294967296 ^ K % 4294967296 = a)
    (h : val 4294967296 X + 4294967296 ^ (K + 8) * u = m % 4294967296 ^ K * n + 4294967296 ^ K * (a * (n % 4294967296 ^ 8))) :
    Wide (K + 1 + 8) (X.set (K + 8) u) ∧ val 4294967296 (X.set (K + 8) u) = m % 4294967296 ^ (K + 1) * n := by
  have hl : K + 8 < X.length := by rw [hW.len]; omega
  have hv := val_set (B := 4294967296) X (K + 8) u hl
  rw [getD_of hl (hW.zero _ (Nat.le_refl _)), Nat.mul_zero, Nat.add_zero] at hv
  refine ⟨⟨by rw [List.length_set, hW.len], hW.dg.set _ hu, fun j hj => ?_⟩, ?_⟩
  · rw [List.getD_eq_getElem?_getD, List.getElem?_set_ne (by omega), ← List.getD_eq_getElem?_getD]
    exact hW.zero j (by omega)
  · rw [← big8_eq, Nat.mod_eq_of_lt hn, ← Nat.mul_assoc, ← Nat.add_mul, ← ha, ← mod_digit] at h
    rw [hv, h]

theorem fold_digit {a b u : Nat} (ha : a < 4294967296) (hb : b < 4294967296) (hu : u < 40) : (a + 38 * b + u) % 4294967296 + 4294967296 * ((a + 38 * b + u) / 4294967296) = a + 38 * b + u ∧ (a + 38 * b + u) / 4294967296 < 40 := by omega
theorem fold_step {V A B P d a b u u' s : Nat} (h : V + P * u = A + 38 * B) (hd : d + 4294967296 * u' = s) (hs : s = a + 38 * b + u) : V + P * d + P * 4294967296 * u' = A + P * a + 38 * (B + P * b) := by
  have e : P * (d + 4294967296 * u') = P * (a + 38 * b + u) := by rw [hd, hs]
  simp only [Nat.mul_add] at e ⊢
  rw [← Nat.mul_assoc, Nat.mul_left_comm P 38] at e
  omega
theorem high_digit (T K : Nat) : T / 4294967296 ^ (K + 8) = T / 4294967296 ^ 8 / 4294967296 ^ K := by
  rw [Nat.div_div_eq_div_mul, ← Nat.pow_add, Nat.add_comm]
theorem fold_mod (T : Nat) : (T % big8 + 38 * (T / big8)) % pN = T % pN := by
  have e : T = T % big8 + big8 * (T / big8) := by rw [Nat.add_comm]; exact (Nat.div_add_mod _ _).symm
  have eb : big8 = 38 + pN * 2 := by decide
  conv => rhs; rw [e]
  generalize T / big8 = H
  generalize T % big8 = L
  rw [eb, Nat.add_mul, ← Nat.add_assoc, Nat.mul_assoc, Nat.add_mul_mod_self_left]
theorem Fill.start8 {i : Nat} {X : List Nat} (h : Fill i X) : X.length = 8 ∧ Digs 4294967296 X := ⟨h.len, h.dg⟩
theorem Fill.all {X : List Nat} (hl : X.length = 8) (hd : Digs 4294967296 X) : Fill 8 X := ⟨hl, hd, fun j hj => by simp [List.getD, List.getElem?_eq_none (by omega : X.length ≤ j)]⟩
theorem Fill.carry {X : List Nat} {J c y S : Nat} (h : Fill 8 X) (hJ : J < 8) (hy : X.getD J 0 = y) (hc : c < 1099511627776) (hS : val 4294967296 X + 4294967296 ^ J * c = S) :
    Fill 8 (X.set J ((c + y) % 4294967296)) ∧ (c + y) / 4294967296 < 1099511627776 ∧ val 4294967296 (X.set J ((c + y) % 4294967296)) + 4294967296 ^ (J + 1) * ((c + y) / 4294967296) = S := by
  have hl : J < X.length := by rw [h.len]; exact hJ
  have hyl : y < 4294967296 := hy ▸ h.dg.getD (by decide) _
  have hv := val_set (B := 4294967296) X J ((c + y) % 4294967296) hl
  rw [getD_of hl hy] at hv
  refine ⟨Fill.all (by rw [List.length_set, h.len]) (h.dg.set _ (Nat.mod_lt _ (by decide))), by omega, ?_⟩
  have hd : (c + y) % 4294967296 + 4294967296 * ((c + y) / 4294967296) = c + y := by omega
  rw [Nat.pow_succ]
  generalize 4294967296 ^ J = P at *
  have e3 : P * ((c + y) % 4294967296 + 4294967296 * ((c + y) / 4294967296)) = P * (c + y) := by rw [hd]
  simp only [Nat.mul_add] at e3
  rw [← Nat.mul_assoc] at e3
  omega
theorem fold_small {Y V u c : Nat} (hV : V < big8) (hu : u < 4294967296) (h : Y + big8 * c = V + 38 * u) : c < 4294967296 := by
  unfold big8 at *
  omega
theorem fold_less {V u : Nat} (hu : 0 < u) : V + 38 * u < V + big8 * u := by
  have : 38 * u < big8 * u := Nat.mul_lt_mul_of_pos_right (by decide) hu
  omega
theorem fold_again {V u : Nat} : (V + 38 * u) % pN = (V + big8 * u) % pN := by
  have eb : big8 = 38 + pN * 2 := by decide
  rw [eb, Nat.add_mul, ← Nat.add_assoc, Nat.mul_assoc, Nat.add_mul_mod_self_left]
end Go.Proofs.Ytmebjoehmheknaa
