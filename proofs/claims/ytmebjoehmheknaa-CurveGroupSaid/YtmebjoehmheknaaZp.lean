/-
  Plain arithmetic: numbers modulo n as the elements of a ring; what Fermat says there; roots of quotients.
  No condition. No program in sight.
-/
import Derived.Test.YtmebjoehmheknaaPrm
namespace Go.Proofs.Ytmebjoehmheknaa
open Go.RowKit
set_option linter.unusedVariables false

section ring
variable {n : Nat} [NeZero n]
/-- A number's class. -/
def kk (n : Nat) [NeZero n] (a : Nat) : Fin n := Fin.ofNat n a
theorem kk_iff {a b : Nat} : kk n a = kk n b ↔ a % n = b % n := by
  unfold kk Fin.ofNat
  exact Fin.mk.injEq _ _ _ _ ▸ Iff.rfl
theorem kk_mod (a : Nat) : kk n (a % n) = kk n a := kk_iff.2 (Nat.mod_mod _ _)
theorem kk_of {a b : Nat} (h : a % n = b % n) : kk n a = kk n b := kk_iff.2 h
theorem kk_add (a b : Nat) : kk n (a + b) = kk n a + kk n b := by
  apply Fin.ext
  show (a + b) % n = (a % n + b % n) % n
  exact Nat.add_mod _ _ _
theorem kk_mul (a b : Nat) : kk n (a * b) = kk n a * kk n b := by
  apply Fin.ext
  show (a * b) % n = (a % n * (b % n)) % n
  exact Nat.mul_mod _ _ _
theorem kk_zero : kk n 0 = 0 := by
  apply Fin.ext
  show 0 % n = 0
  exact Nat.zero_mod _
theorem kk_one : kk n 1 = 1 := rfl
theorem kk_two : kk n 2 = 2 := rfl
theorem kk_nat (a : Nat) : kk n n = 0 := by rw [← kk_zero]; exact kk_of (by rw [Nat.mod_self, Nat.zero_mod])
theorem kk_neg {a : Nat} (h : a ≤ n) : kk n (n - a) = - kk n a := by
  have h1 : kk n (n - a + a) = 0 := by rw [Nat.sub_add_cancel h]; exact kk_nat 0
  rw [kk_add] at h1
  grind
theorem kk_sub {a b : Nat} (h : b ≤ n) : kk n (a + n - b) = kk n a - kk n b := by
  have h1 : kk n (a + n - b + b) = kk n a := by rw [Nat.sub_add_cancel (by omega), kk_add, kk_nat 0]; grind
  rw [kk_add] at h1
  grind
theorem kk_pow (a : Nat) : ∀ k, kk n (a ^ k) = kk n a ^ k
  | 0 => rfl
  | k + 1 => by
    rw [Nat.pow_succ, kk_mul, kk_pow a k]
    rfl
theorem kk_lt {a b : Nat} (ha : a < n) (hb : b < n) (h : kk n a = kk n b) : a = b := by
  have := kk_iff.1 h
  rwa [Nat.mod_eq_of_lt ha, Nat.mod_eq_of_lt hb] at this
theorem kk_is_zero {a : Nat} : kk n a = 0 ↔ a % n = 0 := by
  rw [← kk_zero, kk_iff, Nat.zero_mod]
theorem kk_all (x : Fin n) : x = kk n x.val := Fin.ext (Nat.mod_eq_of_lt x.isLt).symm
theorem fpow_add (x : Fin n) (a : Nat) : ∀ b : Nat, x ^ (a + b) = x ^ a * x ^ b
  | 0 => by show x ^ a = x ^ a * 1; grind
  | b + 1 => by
    show x ^ (a + b) * x = x ^ a * (x ^ b * x)
    rw [fpow_add x a b]
    grind
theorem fmul_pow (x y : Fin n) : ∀ k : Nat, (x * y) ^ k = x ^ k * y ^ k
  | 0 => by show (1 : Fin n) = 1 * 1; grind
  | k + 1 => by
    show (x * y) ^ k * (x * y) = (x ^ k * x) * (y ^ k * y)
    rw [fmul_pow x y k]
    grind
theorem fone_pow : ∀ k : Nat, (1 : Fin n) ^ k = 1
  | 0 => rfl
  | k + 1 => by
    show (1 : Fin n) ^ k * 1 = 1
    rw [fone_pow k]
    grind
theorem fpow_mul (x : Fin n) (a : Nat) : ∀ b : Nat, x ^ (a * b) = (x ^ a) ^ b
  | 0 => rfl
  | b + 1 => by
    rw [Nat.mul_succ, fpow_add, fpow_mul x a b]
    rfl
theorem fpow_succ (x : Fin n) (k : Nat) : x ^ (k + 1) = x ^ k * x := rfl

/-- Two ways of a root of a quotient. -/
theorem root_ways {u v i : Fin n} {a : Nat} (hv : v * i = 1) (hF : v ^ (8 * a + 4) = 1) : u * v ^ 3 * (u * v ^ 7) ^ a = (u * i) ^ (a + 1) := by
  have h1 : i ^ (a + 1) = v ^ (7 * a + 3) := by
    have e : 8 * a + 4 = (a + 1) + (7 * a + 3) := by omega
    rw [e, fpow_add] at hF
    have h2 : v ^ (a + 1) * i ^ (a + 1) = 1 := by rw [← fmul_pow, hv, fone_pow]
    grind
  have h3 : (v ^ 7) ^ a * v ^ 3 = v ^ (7 * a + 3) := by rw [fpow_add, fpow_mul]
  rw [fmul_pow u i, h1, ← h3, fmul_pow, fpow_succ u a]
  grind
end ring

/-! ### p -/
instance : NeZero pN := ⟨by decide⟩
theorem K_euclid {x y : Fin pN} (h : x * y = 0) : x = 0 ∨ y = 0 := by
  rw [kk_all x, kk_all y, ← kk_mul, kk_is_zero] at h
  rcases fermP.euclid h with h | h
  · left; rw [kk_all x]; exact kk_is_zero.2 h
  · right; rw [kk_all y]; exact kk_is_zero.2 h
theorem K_fermat {x : Fin pN} (h : x ≠ 0) : x ^ (pN - 1) = 1 := by
  rw [kk_all x] at h ⊢
  rw [← kk_pow, ← kk_one, kk_iff, fermP.2 _ (fun h0 => h (kk_is_zero.2 h0))]
  decide
theorem pN_pred : pN - 1 = (pN - 2) + 1 := by decide
theorem K_inv {x : Fin pN} (h : x ≠ 0) : x * x ^ (pN - 2) = 1 := by
  have e := K_fermat h
  rw [pN_pred, fpow_succ] at e
  generalize x ^ (pN - 2) = y at e
  grind
theorem K_square {x y : Fin pN} (h : x * x = y * y) : x = y ∨ x = - y := by
  have : (x - y) * (x + y) = 0 := by grind
  rcases K_euclid this with h | h
  · left; grind
  · right; grind
theorem unit_sq : kk pN unitN * kk pN unitN = -1 := by
  have e : kk pN (unitN * unitN) = kk pN (pN - 1) := kk_of (by kernel_rfl)
  rw [kk_mul, kk_neg (by decide), kk_one] at e
  exact e
theorem half_unit : 2 ^ ((pN - 1) / 4) % pN = unitN := powM_is (f := 255) (of_decide_eq_true (by kernel_rfl)) (by kernel_rfl)

/-- The document's root. -/
def rrootQ (u v : Nat) : Nat := u * (v ^ (pN - 2) % pN) % pN
def rrootS (u v : Nat) : Nat := if rrootQ u v ^ ((pN + 3) / 8) % pN * (rrootQ u v ^ ((pN + 3) / 8) % pN) % pN = rrootQ u v then rrootQ u v ^ ((pN + 3) / 8) % pN else rrootQ u v ^ ((pN + 3) / 8) % pN * (2 ^ ((pN - 1) / 4) % pN) % pN
def rrootN (u v : Nat) : Nat × Bool :=
  if v = 0 then (0, false) else if rrootS u v * rrootS u v % pN = rrootQ u v then (evenN (rrootS u v), true) else (0, false)

theorem pos_pN : 0 < pN := by decide
theorem rrootQ_lt (u v : Nat) : rrootQ u v < pN := Nat.mod_lt _ pos_pN
theorem rootR_lt (u v : Nat) : rootR u v < pN := Nat.mod_lt _ pos_pN
theorem e_root : (pN + 3) / 8 = (pN - 5) / 8 + 1 := by decide
theorem e_fermat : 8 * ((pN - 5) / 8) + 4 = pN - 1 := by decide

theorem root_eq {u v : Nat} (hv : v % pN ≠ 0) : rrootQ u v ^ ((pN + 3) / 8) % pN = rootR u v := by
  apply kk_lt (n := pN) (Nat.mod_lt _ pos_pN) (rootR_lt u v)
  have hv' : kk pN v ≠ 0 := fun h => hv (kk_is_zero.1 h)
  have hF := K_fermat hv'
  rw [← e_fermat] at hF
  rw [rootR, kk_mod, kk_mod, kk_pow, kk_mul, kk_mul, kk_pow, kk_pow, kk_mul, kk_pow, rrootQ, kk_mod, kk_mul, kk_mod, kk_pow, e_root]
  exact (root_ways (K_inv hv') hF).symm
theorem root_test {u v r : Nat} (hu : u < pN) (hv : v % pN ≠ 0) : (r * r % pN = rrootQ u v ↔ v * r * r % pN = u % pN) ∧ (r * unitN % pN * (r * unitN % pN) % pN = rrootQ u v ↔ v * r * r % pN = (pN - u % pN) % pN) := by
  have hv' : kk pN v ≠ 0 := fun h => hv (kk_is_zero.1 h)
  have hI := K_inv hv'
  have hJ := unit_sq
  have eq : kk pN (rrootQ u v) = kk pN u * kk pN v ^ (pN - 2) := by rw [rrootQ, kk_mod, kk_mul, kk_mod, kk_pow]
  obtain ⟨I, hIe⟩ : ∃ I, kk pN v ^ (pN - 2) = I := ⟨_, rfl⟩
  rw [hIe] at hI eq
  have em : ∀ x, kk pN x = kk pN (rrootQ u v) ↔ x % pN = rrootQ u v := fun x => by rw [kk_iff, Nat.mod_eq_of_lt (rrootQ_lt u v)]
  constructor
  · rw [← em, ← kk_iff, eq, kk_mul, kk_mul, kk_mul]
    generalize kk pN v = V at *
    generalize kk pN u = U at *
    generalize kk pN r = R at *
    constructor <;> intro h <;> grind
  · rw [← em, ← kk_iff, eq, kk_mul, kk_mod, kk_mul, kk_mul, kk_mul, kk_neg (Nat.le_of_lt (Nat.mod_lt _ pos_pN)), kk_mod]
    generalize kk pN v = V at *
    generalize kk pN u = U at *
    generalize kk pN r = R at *
    generalize kk pN unitN = J at *
    constructor <;> intro h <;> grind
theorem rroot_root {u v : Nat} (hu : u < pN) (hv : v < pN) : rrootN u v = rootN u v := by
  unfold rrootN rootN
  rw [Nat.mod_eq_of_lt hv]
  by_cases h0 : v = 0
  · rw [if_pos h0, if_pos h0]
  · rw [if_neg h0, if_neg h0]
    have hv0 : v % pN ≠ 0 := by rw [Nat.mod_eq_of_lt hv]; exact h0
    have hT := root_test (r := rootR u v) hu hv0
    have hS : rrootS u v = if v * rootR u v * rootR u v % pN = u % pN then rootR u v else rootR u v * unitN % pN := by
      unfold rrootS
      rw [root_eq hv0, half_unit]
      by_cases h : v * rootR u v * rootR u v % pN = u % pN
      · rw [if_pos h, if_pos (hT.1.2 h)]
      · rw [if_neg h, if_neg (fun h' => h (hT.1.1 h'))]
    rw [hS]
    by_cases h : v * rootR u v * rootR u v % pN = u % pN
    · rw [if_pos h, if_pos h, if_pos (hT.1.2 h)]
    · rw [if_neg h, if_neg h]
      by_cases h2 : v * rootR u v * rootR u v % pN = (pN - u % pN) % pN
      · rw [if_pos h2, if_pos (hT.2.2 h2)]
      · rw [if_neg h2, if_neg (fun h' => h2 (hT.2.1 h'))]

theorem evenN_same {r s : Nat} (hr : r < pN) (hs : s < pN) (h : kk pN r = kk pN s ∨ kk pN r = - kk pN s) : evenN r = evenN s := by
  rcases h with h | h
  · rw [kk_lt hr hs h]
  · by_cases h0 : s = 0
    · subst h0
      have : r = 0 := kk_lt hr pos_pN (by rw [h, kk_zero]; grind)
      rw [this]
    · rw [← kk_neg (Nat.le_of_lt hs)] at h
      have e : r = pN - s := kk_lt hr (by omega) h
      have hodd : pN % 2 = 1 := by decide
      unfold evenN
      have e1 : (pN - r) % pN = s := by rw [e, Nat.sub_sub_self (Nat.le_of_lt hs)]; exact Nat.mod_eq_of_lt hs
      have e2 : (pN - s) % pN = r := by rw [← e]; exact Nat.mod_eq_of_lt hr
      rw [e1, e2]
      by_cases a : r % 2 = 1
      · rw [if_pos a, if_neg (by omega)]
      · rw [if_neg a, if_pos (by omega)]

theorem a4 : 8 * ((pN - 5) / 8) + 4 = pN - 1 := e_fermat
theorem one_ne : (1 : Fin pN) ≠ 0 := by
  intro h
  have : kk pN 1 = 0 := h
  rw [kk_is_zero] at this
  exact absurd this (by decide)
theorem two_ne : (2 : Fin pN) ≠ 0 := by
  intro h
  have : kk pN 2 = 0 := h
  rw [kk_is_zero] at this
  exact absurd this (by decide)
/-- A root that there is is found. -/
theorem rootN_of {u v x : Nat} (hv : v % pN ≠ 0) (h : v * x * x % pN = u % pN) : rootN u v = (evenN (x % pN), true) := by
  have hv' : kk pN v ≠ 0 := fun h => hv (kk_is_zero.1 h)
  have hF := K_fermat hv'
  rw [← a4] at hF
  have hI := K_inv hv'
  have hr : kk pN (rootR u v) = (kk pN u * kk pN v ^ (pN - 2)) ^ ((pN - 5) / 8 + 1) := by
    rw [rootR, kk_mod, kk_mul, kk_mul, kk_pow, kk_pow, kk_mul, kk_pow]
    exact root_ways hI hF
  have hU : kk pN v * kk pN x * kk pN x = kk pN u := by
    rw [← kk_mul, ← kk_mul]
    exact kk_of h
  have hUI : kk pN u * kk pN v ^ (pN - 2) = kk pN x * kk pN x := by
    generalize kk pN v ^ (pN - 2) = I at hI
    grind
  rw [hUI, fmul_pow, ← fpow_add] at hr
  have hX := fun h : kk pN x ≠ 0 => K_fermat h
  rw [← a4] at hX
  have hJ := unit_sq
  have lr := rootR_lt u v
  have lx : x % pN < pN := Nat.mod_lt _ pos_pN
  have kx : kk pN (x % pN) = kk pN x := kk_mod x
  have e1 : ∀ a : Nat, (a + 1) + (a + 1) = 2 * a + 2 := fun a => by omega
  have e2 : ∀ a : Nat, 8 * a + 4 = (4 * a + 2) + (4 * a + 2) := fun a => by omega
  have e3 : ∀ a : Nat, (2 * a + 2) + (2 * a + 2) = (4 * a + 2) + 2 := fun a => by omega
  rw [e1] at hr
  rw [e2] at hX
  have hrr : kk pN (rootR u v) * kk pN (rootR u v) = kk pN x ^ (4 * ((pN - 5) / 8) + 2) * (kk pN x * kk pN x) := by
    rw [hr, ← fpow_add, e3, fpow_add]
    have : kk pN x ^ 2 = kk pN x * kk pN x := by grind
    rw [this]
  have t1 : v * rootR u v * rootR u v % pN = u % pN ↔ kk pN v * (kk pN (rootR u v) * kk pN (rootR u v)) = kk pN u := by
    rw [← kk_iff, kk_mul, kk_mul]
    constructor <;> intro h <;> grind
  have t2 : v * rootR u v * rootR u v % pN = (pN - u % pN) % pN ↔ kk pN v * (kk pN (rootR u v) * kk pN (rootR u v)) = - kk pN u := by
    rw [← kk_iff, kk_neg (Nat.le_of_lt (Nat.mod_lt _ pos_pN)), kk_mod, kk_mul, kk_mul]
    constructor <;> intro h <;> grind
  unfold rootN
  rw [if_neg hv]
  generalize kk pN v = V at *
  generalize kk pN u = U at *
  by_cases hx0 : kk pN x = 0
  · have hr0 : kk pN (rootR u v) = 0 := by
      rw [hr, hx0, show ∀ a : Nat, 2 * a + 2 = (2 * a + 1) + 1 from fun _ => rfl, fpow_succ]
      grind
    have c1 : v * rootR u v * rootR u v % pN = u % pN := t1.2 (by rw [hr0]; grind)
    rw [if_pos c1, evenN_same lr lx (.inl (by rw [hr0, kx, hx0]))]
  · have hX1 := hX hx0
    rw [fpow_add] at hX1
    generalize kk pN x ^ (4 * ((pN - 5) / 8) + 2) = E at hX1 hrr
    have hE := K_square (x := E) (y := 1) (by rw [hX1]; grind)
    rcases hE with rfl | rfl
    · have c1 : v * rootR u v * rootR u v % pN = u % pN := t1.2 (by rw [hrr]; grind)
      rw [if_pos c1, evenN_same lr lx (by rw [kx]; exact K_square (by rw [hrr]; grind))]
    · have hU0 : U ≠ 0 := fun h0 => by
        have h1 : V * (kk pN x * kk pN x) = 0 := by grind
        rcases K_euclid h1 with h2 | h2
        · exact hv' h2
        · rcases K_euclid h2 with h3 | h3 <;> exact hx0 h3
      have c1 : ¬ v * rootR u v * rootR u v % pN = u % pN := fun h1 => by
        have h2 := t1.1 h1
        rw [hrr] at h2
        have h3 : 2 * U = 0 := by grind
        rcases K_euclid h3 with h4 | h4
        · exact two_ne h4
        · exact hU0 h4
      have c2 : v * rootR u v * rootR u v % pN = (pN - u % pN) % pN := t2.2 (by rw [hrr]; grind)
      rw [if_neg c1, if_pos c2, evenN_same (Nat.mod_lt _ pos_pN) lx (by
        rw [kx, kk_mod, kk_mul]
        apply K_square
        generalize kk pN (rootR u v) = R at *
        generalize kk pN unitN = J at *
        grind)]
theorem rootN_none {u v : Nat} (hv : v % pN = 0) : rootN u v = (0, false) := by
  unfold rootN
  rw [if_pos hv]
theorem evenN_or (x : Nat) : evenN (x % pN) = x % pN ∨ evenN (x % pN) = (pN - x % pN) % pN := by
  unfold evenN
  split
  · exact .inr rfl
  · exact .inl rfl
theorem evenN_lt {r : Nat} (h : r < pN) : evenN r < pN := by
  unfold evenN
  split
  · exact Nat.mod_lt _ pos_pN
  · exact h
theorem rootN_lt (u v : Nat) : (rootN u v).1 < pN := by
  unfold rootN
  split
  · exact pos_pN
  · split
    · exact evenN_lt (rootR_lt u v)
    · split
      · exact evenN_lt (Nat.mod_lt _ pos_pN)
      · exact pos_pN
theorem rootR_congr {u v u' v' : Nat} (hu : u % pN = u' % pN) (hv : v % pN = v' % pN) : rootR u v = rootR u' v' := by
  apply kk_lt (rootR_lt _ _) (rootR_lt _ _)
  rw [rootR, rootR, kk_mod, kk_mod, kk_mul, kk_mul, kk_mul, kk_mul, kk_pow, kk_pow, kk_pow, kk_pow, kk_mul, kk_mul, kk_pow, kk_pow, kk_of hu, kk_of hv]
theorem rootN_congr {u v u' v' : Nat} (hu : u % pN = u' % pN) (hv : v % pN = v' % pN) : rootN u v = rootN u' v' := by
  have e : v * rootR u' v' * rootR u' v' % pN = v' * rootR u' v' * rootR u' v' % pN := by
    rw [← kk_iff, kk_mul, kk_mul, kk_mul, kk_mul, kk_of hv]
  unfold rootN
  rw [rootR_congr hu hv, e, hu, hv]
end Go.Proofs.Ytmebjoehmheknaa
