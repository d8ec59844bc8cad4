/-
  Plain arithmetic: the points of the curve -x² + y² = 1 + d x² y² modulo p, their sum, and that it is a group.
  No condition. No program in sight.
-/
import Derived.Test.YtmebjoehmheknaaZp
namespace Go.Proofs.Ytmebjoehmheknaa
open Go.RowKit
set_option linter.unusedVariables false

/-- The curve's number d. -/
def dN : Nat := 37095705934669439343138083508754565189542113879843219016388785533085940283555
def dK : Fin pN := kk pN dN
theorem dN_lt : dN < pN := by decide
theorem dN_euler : (pN - dN) ^ ((pN - 1) / 2) % pN = pN - 1 := powM_is (f := 255) (of_decide_eq_true (by kernel_rfl)) (by kernel_rfl)
theorem neg_d_pow : (- dK) ^ ((pN - 1) / 2) = -1 := by
  have e : kk pN ((pN - dN) ^ ((pN - 1) / 2)) = kk pN (pN - 1) := kk_of (by rw [dN_euler]; exact (Nat.mod_eq_of_lt (by decide)).symm)
  rw [kk_pow, kk_neg (Nat.le_of_lt dN_lt), kk_neg (by decide), kk_one] at e
  exact e
theorem dK_ne : - dK ≠ 0 := by
  intro h
  have h2 : kk pN (pN - dN) = 0 := by rw [kk_neg (Nat.le_of_lt dN_lt)]; exact h
  rw [kk_is_zero] at h2
  exact absurd h2 (of_decide_eq_true (by kernel_rfl))
theorem half2 : (pN - 1) / 2 + (pN - 1) / 2 = pN - 1 := by decide
theorem f_two {n : Nat} [NeZero n] : (2 : Fin n) = 1 + 1 := by grind
/-- -d is no square. -/
theorem no_square {a b : Fin pN} (hb : b ≠ 0) (h : a * a = - dK * (b * b)) : False := by
  have h1 : (a * a) ^ ((pN - 1) / 2) = (- dK * (b * b)) ^ ((pN - 1) / 2) := by rw [h]
  rw [fmul_pow, fmul_pow, fmul_pow, ← fpow_add, ← fpow_add, half2, neg_d_pow, K_fermat hb] at h1
  by_cases ha : a = 0
  · subst ha
    have h2 : - dK * (b * b) = 0 := by rw [← h]; grind
    rcases K_euclid h2 with h3 | h3
    · exact dK_ne h3
    · rcases K_euclid h3 with h4 | h4 <;> exact hb h4
  · rw [K_fermat ha] at h1
    have h2 : (2 : Fin pN) = 0 := by
      have : (1 : Fin pN) = -1 := by rw [h1]; grind
      have h5 : (1 : Fin pN) + 1 = 0 := by rw [this]; grind
      exact f_two.trans h5
    exact two_ne h2

/-- A point of the curve. -/
structure Pt where
  x : Fin pN
  y : Fin pN
  on : y * y - x * x = 1 + dK * x * x * y * y
theorem Pt.same {P Q : Pt} (hx : P.x = Q.x) (hy : P.y = Q.y) : P = Q := by
  cases P; cases Q
  simp only at hx hy
  subst hx; subst hy
  rfl

theorem edw_key {x1 y1 x2 y2 d i e : Fin pN} (hi : i * i = -1) (h1 : y1 * y1 - x1 * x1 = 1 + d * x1 * x1 * y1 * y1) (h2 : y2 * y2 - x2 * x2 = 1 + d * x2 * x2 * y2 * y2) (he : e = d * x1 * x2 * y1 * y2) (hee : e * e = 1) :
    (i * x1 + e * y1) * (i * x1 + e * y1) = - d * ((i * x1 * y1 * (i * x2 + y2)) * (i * x1 * y1 * (i * x2 + y2))) := by
  subst he
  grind
theorem edw_key' {x1 y1 x2 y2 d i e : Fin pN} (hi : i * i = -1) (h1 : y1 * y1 - x1 * x1 = 1 + d * x1 * x1 * y1 * y1) (h2 : y2 * y2 - x2 * x2 = 1 + d * x2 * x2 * y2 * y2) (he : e = d * x1 * x2 * y1 * y2) (hee : e * e = 1) :
    (i * x1 - e * y1) * (i * x1 - e * y1) = - d * ((i * x1 * y1 * (i * x2 - y2)) * (i * x1 * y1 * (i * x2 - y2))) := by
  subst he
  grind
theorem K_mul_ne {x y : Fin pN} (hx : x ≠ 0) (hy : y ≠ 0) : x * y ≠ 0 := fun h => by
  rcases K_euclid h with h | h
  · exact hx h
  · exact hy h
/-- The sum's formulas have no exceptions. -/
theorem edw_complete (P Q : Pt) : (dK * P.x * Q.x * P.y * Q.y) * (dK * P.x * Q.x * P.y * Q.y) ≠ 1 := by
  intro hee
  have hi := unit_sq
  have k1 := edw_key hi P.on Q.on rfl hee
  have k2 := edw_key' hi P.on Q.on rfl hee
  obtain ⟨x1, y1, h1⟩ := P
  obtain ⟨x2, y2, h2⟩ := Q
  simp only at hee k1 k2
  have hi0 : kk pN unitN ≠ 0 := fun h => by rw [h] at hi; exact one_ne (by grind)
  have hx1 : x1 ≠ 0 := fun h => by rw [h] at hee; exact one_ne (by grind)
  have hy1 : y1 ≠ 0 := fun h => by rw [h] at hee; exact one_ne (by grind)
  have hy2 : y2 ≠ 0 := fun h => by rw [h] at hee; exact one_ne (by grind)
  generalize kk pN unitN = i at *
  have hb := K_mul_ne (K_mul_ne hi0 hx1) hy1
  by_cases ha : i * x2 + y2 = 0
  · by_cases hc : i * x2 - y2 = 0
    · have h3 : 2 * y2 = 0 := by grind
      rcases K_euclid h3 with h4 | h4
      · exact two_ne h4
      · exact hy2 h4
    · exact no_square (K_mul_ne hb hc) k2
  · exact no_square (K_mul_ne hb ha) k1
theorem den_add (P Q : Pt) : 1 + dK * P.x * Q.x * P.y * Q.y ≠ 0 := fun h => edw_complete P Q (by
  have : dK * P.x * Q.x * P.y * Q.y = -1 := by grind
  rw [this]; grind)
theorem den_sub (P Q : Pt) : 1 - dK * P.x * Q.x * P.y * Q.y ≠ 0 := fun h => edw_complete P Q (by
  have : dK * P.x * Q.x * P.y * Q.y = 1 := by grind
  rw [this]; grind)

theorem edw_on {n : Nat} [NeZero n] {x1 y1 x2 y2 d i j : Fin n} (h1 : y1 * y1 - x1 * x1 = 1 + d * x1 * x1 * y1 * y1) (h2 : y2 * y2 - x2 * x2 = 1 + d * x2 * x2 * y2 * y2)
    (hi : (1 + d * x1 * x2 * y1 * y2) * i = 1) (hj : (1 - d * x1 * x2 * y1 * y2) * j = 1) :
    ((y1 * y2 + x1 * x2) * j) * ((y1 * y2 + x1 * x2) * j) - ((x1 * y2 + y1 * x2) * i) * ((x1 * y2 + y1 * x2) * i) = 1 + d * ((x1 * y2 + y1 * x2) * i) * ((x1 * y2 + y1 * x2) * i) * ((y1 * y2 + x1 * x2) * j) * ((y1 * y2 + x1 * x2) * j) := by
  grind
/-- The sum. -/
def padd (P Q : Pt) : Pt := ⟨(P.x * Q.y + P.y * Q.x) * (1 + dK * P.x * Q.x * P.y * Q.y) ^ (pN - 2), (P.y * Q.y + P.x * Q.x) * (1 - dK * P.x * Q.x * P.y * Q.y) ^ (pN - 2),
  edw_on P.on Q.on (K_inv (den_add P Q)) (K_inv (den_sub P Q))⟩
theorem K_cancel {a b c : Fin pN} (hc : c ≠ 0) (h : a * c = b * c) : a = b := by
  have h1 : (a - b) * c = 0 := by grind
  rcases K_euclid h1 with h2 | h2
  · grind
  · exact absurd h2 hc
theorem padd_x (P Q : Pt) : (padd P Q).x * (1 + dK * P.x * Q.x * P.y * Q.y) = P.x * Q.y + P.y * Q.x := by
  show (P.x * Q.y + P.y * Q.x) * (1 + dK * P.x * Q.x * P.y * Q.y) ^ (pN - 2) * (1 + dK * P.x * Q.x * P.y * Q.y) = _
  have h := K_inv (den_add P Q)
  generalize (1 + dK * P.x * Q.x * P.y * Q.y) ^ (pN - 2) = i at *
  grind
theorem padd_y (P Q : Pt) : (padd P Q).y * (1 - dK * P.x * Q.x * P.y * Q.y) = P.y * Q.y + P.x * Q.x := by
  show (P.y * Q.y + P.x * Q.x) * (1 - dK * P.x * Q.x * P.y * Q.y) ^ (pN - 2) * (1 - dK * P.x * Q.x * P.y * Q.y) = _
  have h := K_inv (den_sub P Q)
  generalize (1 - dK * P.x * Q.x * P.y * Q.y) ^ (pN - 2) = i at *
  grind
theorem padd_comm (P Q : Pt) : padd P Q = padd Q P := by
  apply Pt.same
  · refine K_cancel (den_add P Q) ?_
    have h1 := padd_x P Q
    have h2 := padd_x Q P
    grind
  · refine K_cancel (den_sub P Q) ?_
    have h1 := padd_y P Q
    have h2 := padd_y Q P
    grind
/-- The neutral point. -/
def pzero : Pt := ⟨0, 1, by grind⟩
def pneg (P : Pt) : Pt := ⟨- P.x, P.y, by have := P.on; grind⟩
theorem padd_zero (P : Pt) : padd P pzero = P := by
  apply Pt.same
  · have h := padd_x P pzero
    have e1 : pzero.x = 0 := rfl
    have e2 : pzero.y = 1 := rfl
    rw [e1, e2] at h
    grind
  · have h := padd_y P pzero
    have e1 : pzero.x = 0 := rfl
    have e2 : pzero.y = 1 := rfl
    rw [e1, e2] at h
    grind
theorem padd_neg (P : Pt) : padd P (pneg P) = pzero := by
  have e1 : (pneg P).x = - P.x := rfl
  have e2 : (pneg P).y = P.y := rfl
  apply Pt.same
  · refine K_cancel (den_add P (pneg P)) ?_
    have h := padd_x P (pneg P)
    have e3 : pzero.x = 0 := rfl
    rw [e1, e2] at *
    rw [e3]
    grind
  · refine K_cancel (den_sub P (pneg P)) ?_
    have h := padd_y P (pneg P)
    have e3 : pzero.y = 1 := rfl
    have ho := P.on
    rw [e1, e2] at *
    rw [e3]
    grind
end Go.Proofs.Ytmebjoehmheknaa
