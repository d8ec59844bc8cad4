/-
  Plain arithmetic: the points of the curve are a group; multiples.
  No condition. No program in sight.
-/
import Derived.Test.YtmebjoehmheknaaEdw
namespace Go.Proofs.Ytmebjoehmheknaa
open Go.RowKit
set_option linter.unusedVariables false

set_option maxHeartbeats 8000000 in
theorem edw_assoc_x {n : Nat} [NeZero n] {x1 y1 x2 y2 x3 y3 d : Fin n}
    (h1 : y1 * y1 - x1 * x1 = 1 + d * x1 * x1 * y1 * y1) (h2 : y2 * y2 - x2 * x2 = 1 + d * x2 * x2 * y2 * y2) (h3 : y3 * y3 - x3 * x3 = 1 + d * x3 * x3 * y3 * y3) :
    ((x1 * y2 + y1 * x2) * y3 * (1 - d * x1 * x2 * y1 * y2) + (y1 * y2 + x1 * x2) * x3 * (1 + d * x1 * x2 * y1 * y2)) * ((1 - d * x2 * x3 * y2 * y3 * (d * x2 * x3 * y2 * y3)) + d * x1 * y1 * (x2 * y3 + y2 * x3) * (y2 * y3 + x2 * x3))
     = (x1 * (y2 * y3 + x2 * x3) * (1 + d * x2 * x3 * y2 * y3) + y1 * (x2 * y3 + y2 * x3) * (1 - d * x2 * x3 * y2 * y3)) * ((1 - d * x1 * x2 * y1 * y2 * (d * x1 * x2 * y1 * y2)) + d * x3 * y3 * (x1 * y2 + y1 * x2) * (y1 * y2 + x1 * x2)) := by
  grind
set_option maxHeartbeats 8000000 in
theorem edw_assoc_y {n : Nat} [NeZero n] {x1 y1 x2 y2 x3 y3 d : Fin n}
    (h1 : y1 * y1 - x1 * x1 = 1 + d * x1 * x1 * y1 * y1) (h2 : y2 * y2 - x2 * x2 = 1 + d * x2 * x2 * y2 * y2) (h3 : y3 * y3 - x3 * x3 = 1 + d * x3 * x3 * y3 * y3) :
    ((y1 * y2 + x1 * x2) * y3 * (1 + d * x1 * x2 * y1 * y2) + (x1 * y2 + y1 * x2) * x3 * (1 - d * x1 * x2 * y1 * y2)) * ((1 - d * x2 * x3 * y2 * y3 * (d * x2 * x3 * y2 * y3)) - d * x1 * y1 * (x2 * y3 + y2 * x3) * (y2 * y3 + x2 * x3))
     = (y1 * (y2 * y3 + x2 * x3) * (1 + d * x2 * x3 * y2 * y3) + x1 * (x2 * y3 + y2 * x3) * (1 - d * x2 * x3 * y2 * y3)) * ((1 - d * x1 * x2 * y1 * y2 * (d * x1 * x2 * y1 * y2)) - d * x3 * y3 * (x1 * y2 + y1 * x2) * (y1 * y2 + x1 * x2)) := by
  grind

theorem cross {u v n1 n2 m1 m2 : Fin pN} (h1 : u * m1 = n1) (h2 : v * m2 = n2) (h : n1 * m2 = n2 * m1) (hm1 : m1 ≠ 0) (hm2 : m2 ≠ 0) : u = v := by
  refine K_cancel (K_mul_ne hm1 hm2) ?_
  subst h1
  subst h2
  grind
theorem padd_assoc (P Q R : Pt) : padd (padd P Q) R = padd P (padd Q R) := by
  have ax := padd_x P Q
  have ay := padd_y P Q
  have bx := padd_x Q R
  have bY := padd_y Q R
  have d1 := den_add P Q
  have d2 := den_sub P Q
  have d3 := den_add Q R
  have d4 := den_sub Q R
  apply Pt.same
  · have c1 := padd_x (padd P Q) R
    have c2 := padd_x P (padd Q R)
    have e1 := den_add (padd P Q) R
    have e2 := den_add P (padd Q R)
    have key := edw_assoc_x P.on Q.on R.on
    generalize (padd (padd P Q) R).x = u at *
    generalize (padd P (padd Q R)).x = v at *
    generalize (padd P Q).x = X at *
    generalize (padd P Q).y = Y at *
    generalize (padd Q R).x = Z at *
    generalize (padd Q R).y = W at *
    obtain ⟨x1, y1, h1⟩ := P
    obtain ⟨x2, y2, h2⟩ := Q
    obtain ⟨x3, y3, h3⟩ := R
    simp only at ax ay bx bY d1 d2 d3 d4 c1 c2 e1 e2 key ⊢
    generalize dK = d at *
    clear h1 h2 h3
    have m1 : (1 - d * x1 * x2 * y1 * y2 * (d * x1 * x2 * y1 * y2)) + d * x3 * y3 * (x1 * y2 + y1 * x2) * (y1 * y2 + x1 * x2) = (1 + d * X * x3 * Y * y3) * ((1 + d * x1 * x2 * y1 * y2) * (1 - d * x1 * x2 * y1 * y2)) := by
      rw [← ax, ← ay]
      grind
    have m2 : (1 - d * x2 * x3 * y2 * y3 * (d * x2 * x3 * y2 * y3)) + d * x1 * y1 * (x2 * y3 + y2 * x3) * (y2 * y3 + x2 * x3) = (1 + d * x1 * Z * y1 * W) * ((1 + d * x2 * x3 * y2 * y3) * (1 - d * x2 * x3 * y2 * y3)) := by
      rw [← bx, ← bY]
      grind
    refine cross ?_ ?_ key ?_ ?_
    · rw [m1, ← ax, ← ay]
      clear key m1 m2 d1 d2 d3 d4 e1 e2 ax ay bx bY c2
      grind
    · rw [m2, ← bx, ← bY]
      clear key m1 m2 d1 d2 d3 d4 e1 e2 ax ay bx bY c1
      grind
    · rw [m1]
      exact K_mul_ne e1 (K_mul_ne d1 d2)
    · rw [m2]
      exact K_mul_ne e2 (K_mul_ne d3 d4)
  · have c1 := padd_y (padd P Q) R
    have c2 := padd_y P (padd Q R)
    have e1 := den_sub (padd P Q) R
    have e2 := den_sub P (padd Q R)
    have key := edw_assoc_y P.on Q.on R.on
    generalize (padd (padd P Q) R).y = u at *
    generalize (padd P (padd Q R)).y = v at *
    generalize (padd P Q).x = X at *
    generalize (padd P Q).y = Y at *
    generalize (padd Q R).x = Z at *
    generalize (padd Q R).y = W at *
    obtain ⟨x1, y1, h1⟩ := P
    obtain ⟨x2, y2, h2⟩ := Q
    obtain ⟨x3, y3, h3⟩ := R
    simp only at ax ay bx bY d1 d2 d3 d4 c1 c2 e1 e2 key ⊢
    generalize dK = d at *
    clear h1 h2 h3
    have m1 : (1 - d * x1 * x2 * y1 * y2 * (d * x1 * x2 * y1 * y2)) - d * x3 * y3 * (x1 * y2 + y1 * x2) * (y1 * y2 + x1 * x2) = (1 - d * X * x3 * Y * y3) * ((1 + d * x1 * x2 * y1 * y2) * (1 - d * x1 * x2 * y1 * y2)) := by
      rw [← ax, ← ay]
      grind
    have m2 : (1 - d * x2 * x3 * y2 * y3 * (d * x2 * x3 * y2 * y3)) - d * x1 * y1 * (x2 * y3 + y2 * x3) * (y2 * y3 + x2 * x3) = (1 - d * x1 * Z * y1 * W) * ((1 + d * x2 * x3 * y2 * y3) * (1 - d * x2 * x3 * y2 * y3)) := by
      rw [← bx, ← bY]
      grind
    refine cross ?_ ?_ key ?_ ?_
    · rw [m1, ← ax, ← ay]
      clear key m1 m2 d1 d2 d3 d4 e1 e2 ax ay bx bY c2
      grind
    · rw [m2, ← bx, ← bY]
      clear key m1 m2 d1 d2 d3 d4 e1 e2 ax ay bx bY c1
      grind
    · rw [m1]
      exact K_mul_ne e1 (K_mul_ne d1 d2)
    · rw [m2]
      exact K_mul_ne e2 (K_mul_ne d3 d4)

/-- n times a point. -/
def smul : Nat → Pt → Pt
  | 0, _ => pzero
  | n + 1, P => padd (smul n P) P
theorem zero_padd (P : Pt) : padd pzero P = P := by rw [padd_comm, padd_zero]
theorem smul_add (m : Nat) (P : Pt) : ∀ n, smul (m + n) P = padd (smul m P) (smul n P)
  | 0 => (padd_zero _).symm
  | n + 1 => by
    show padd (smul (m + n) P) P = padd (smul m P) (padd (smul n P) P)
    rw [smul_add m P n, padd_assoc]
theorem smul_one (P : Pt) : smul 1 P = P := zero_padd P
theorem smul_two (m : Nat) (P : Pt) : smul (2 * m) P = padd (smul m P) (smul m P) := by
  rw [Nat.two_mul, smul_add]
theorem smul_zero : ∀ n, smul n pzero = pzero
  | 0 => rfl
  | n + 1 => by
    show padd (smul n pzero) pzero = pzero
    rw [smul_zero n, padd_zero]
theorem smul_mul (m : Nat) (P : Pt) : ∀ n, smul (m * n) P = smul n (smul m P)
  | 0 => rfl
  | n + 1 => by
    rw [Nat.mul_succ, smul_add, smul_mul m P n]
    rfl
theorem smul_comm (m n : Nat) (P : Pt) : smul m (smul n P) = smul n (smul m P) := by
  rw [← smul_mul, ← smul_mul, Nat.mul_comm]
theorem smul_succ (n : Nat) (P : Pt) : smul (n + 1) P = padd (smul n P) P := rfl
theorem padd_swap (A B P Q : Pt) : padd (padd A B) (padd P Q) = padd (padd A P) (padd B Q) := by
  rw [padd_assoc, padd_assoc, ← padd_assoc B P Q, padd_comm B P, padd_assoc P B Q]
theorem smul_padd (P Q : Pt) (n : Nat) : smul n (padd P Q) = padd (smul n P) (smul n Q) := by
  induction n with
  | zero =>
    show pzero = padd pzero pzero
    exact (padd_zero pzero).symm
  | succ n ih => rw [smul_succ, smul_succ, smul_succ, ih, padd_swap]
theorem smul_mod {q : Nat} {P : Pt} (h : smul q P = pzero) (n : Nat) : smul (n % q) P = smul n P := by
  have e := Nat.div_add_mod n q
  conv => rhs; rw [← e, smul_add, smul_mul, h, smul_zero, zero_padd]
theorem pneg_unique {P Q : Pt} (h : padd P Q = pzero) : Q = pneg P := by
  have h1 : padd (pneg P) (padd P Q) = pneg P := by rw [h, padd_zero]
  rw [← padd_assoc, padd_comm (pneg P) P, padd_neg, zero_padd] at h1
  exact h1
theorem pneg_pneg (P : Pt) : pneg (pneg P) = P := (pneg_unique (by rw [padd_comm]; exact padd_neg P)).symm
theorem pneg_smul (n : Nat) (P : Pt) : smul n (pneg P) = pneg (smul n P) := by
  apply pneg_unique
  rw [← smul_padd, padd_neg, smul_zero]
end Go.Proofs.Ytmebjoehmheknaa
