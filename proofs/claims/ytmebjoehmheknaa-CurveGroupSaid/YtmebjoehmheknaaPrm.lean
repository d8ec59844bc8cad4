/-
  Plain arithmetic: what Fermat says of a number, from a certificate (a number whose powers are as many as there may be); and that p is such a number.
  No condition. No program in sight.
-/
import Derived.Test.YtmebjoehmheknaaFmH
namespace Go.Proofs.Ytmebjoehmheknaa
open Go.RowKit
set_option linter.unusedVariables false

/-- Each number that p does not divide has 1 as its power p - 1. -/
def Ferm (p : Nat) : Prop := 1 < p ∧ ∀ x, x % p ≠ 0 → x ^ (p - 1) % p = 1

theorem Ferm.euclid {p : Nat} (h : Ferm p) {a b : Nat} (hab : a * b % p = 0) : a % p = 0 ∨ b % p = 0 := by
  by_cases ha : a % p = 0
  · exact .inl ha
  · right
    have h1 := h.2 a ha
    have h2 : p - 1 = (p - 2) + 1 := by have := h.1; omega
    have e : a ^ (p - 1) * b % p = b % p := by rw [Nat.mul_mod, h1, Nat.one_mul, Nat.mod_mod]
    rw [← e, h2, Nat.pow_succ, Nat.mul_assoc, Nat.mul_mod, hab, Nat.mul_zero, Nat.zero_mod]

theorem pigeon : ∀ (n : Nat) (f : Nat → Nat), (∀ i, i < n → f i < n) → (∀ i j, i < n → j < n → f i = f j → i = j) → ∀ y, y < n → ∃ i, i < n ∧ f i = y
  | 0, _, _, _, y, hy => absurd hy (Nat.not_lt_zero _)
  | n + 1, f, hf, hi, y, hy => by
    have hc := hf n (Nat.lt_succ_self _)
    obtain ⟨c, hcn⟩ : ∃ c, f n = c := ⟨_, rfl⟩
    rw [hcn] at hc
    have hne : ∀ i, i < n → f i ≠ c := fun i h e => by
      have := hi i n (by omega) (by omega) (by rw [e, hcn])
      omega
    have ih := pigeon n (fun i => if f i = n then c else f i) (fun i h => by
      have h1 := hf i (by omega)
      show (if f i = n then c else f i) < n
      split
      · rename_i e
        have : c ≠ n := fun h' => hne i h (by rw [e, h'])
        omega
      · omega) (fun i j h1 h2 e => by
      have e' : (if f i = n then c else f i) = (if f j = n then c else f j) := e
      by_cases a : f i = n
      · by_cases b : f j = n
        · exact hi i j (by omega) (by omega) (by rw [a, b])
        · rw [if_pos a, if_neg b] at e'
          exact absurd e'.symm (hne j h2)
      · by_cases b : f j = n
        · rw [if_neg a, if_pos b] at e'
          exact absurd e' (hne i h1)
        · rw [if_neg a, if_neg b] at e'
          exact hi i j (by omega) (by omega) e')
    by_cases hyn : y = n
    · subst hyn
      by_cases hcy : c = y
      · exact ⟨y, by omega, by rw [hcn, hcy]⟩
      · obtain ⟨i, h1, h2⟩ := ih c (by omega)
        have h2' : (if f i = y then c else f i) = c := h2
        by_cases a : f i = y
        · exact ⟨i, by omega, a⟩
        · rw [if_neg a] at h2'
          exact absurd h2' (hne i h1)
    · obtain ⟨i, h1, h2⟩ := ih y (by omega)
      have h2' : (if f i = n then c else f i) = y := h2
      by_cases a : f i = n
      · rw [if_pos a] at h2'
        exact ⟨n, by omega, by rw [hcn, h2']⟩
      · rw [if_neg a] at h2'
        exact ⟨i, by omega, h2'⟩

theorem pow_one_add {g p a b : Nat} (ha : g ^ a % p = 1) : g ^ (a + b) % p = g ^ b % p := by
  rw [Nat.pow_add, Nat.mul_mod, ha, Nat.one_mul, Nat.mod_mod]
theorem pow_one_mul {g p a : Nat} (hp : 1 < p) (ha : g ^ a % p = 1) : ∀ k, g ^ (a * k) % p = 1
  | 0 => by rw [Nat.mul_zero, Nat.pow_zero]; exact Nat.mod_eq_of_lt hp
  | k + 1 => by rw [Nat.mul_succ, Nat.add_comm, pow_one_add ha, pow_one_mul hp ha k]
theorem pow_one_mod {g p a b : Nat} (hp : 1 < p) (ha : g ^ a % p = 1) (hb : g ^ b % p = 1) : g ^ (b % a) % p = 1 := by
  have h := Nat.div_add_mod b a
  rw [← h, pow_one_add (pow_one_mul hp ha _)] at hb
  exact hb
theorem pow_one_gcd {g p : Nat} (hp : 1 < p) (a b : Nat) : g ^ a % p = 1 → g ^ b % p = 1 → g ^ (Nat.gcd a b) % p = 1 := by
  induction a, b using Nat.gcd.induction with
  | H0 n => intro _ h; rwa [Nat.gcd_zero_left]
  | H1 m n hm ih =>
    intro ha hb
    rw [Nat.gcd_rec]
    exact ih (pow_one_mod hp ha hb) ha

theorem prime_div : ∀ (qs : List Nat), (∀ q ∈ qs, Ferm q) → ∀ (k e : Nat), k * e = qs.foldr (· * ·) 1 → k ≠ 1 → ∃ q ∈ qs, k % q = 0
  | [], _, k, e, h, hk => absurd (Nat.eq_one_of_mul_eq_one_right h) hk
  | q :: qs, hq, k, e, h, hk => by
    have hF := hq q (List.mem_cons_self ..)
    have h0 : k * e % q = 0 := by rw [h]; exact Nat.mul_mod_right _ _
    rcases hF.euclid h0 with h1 | h1
    · exact ⟨q, List.mem_cons_self .., h1⟩
    · have he : e = q * (e / q) := by have := Nat.div_add_mod e q; omega
      have h2 : k * (e / q) = qs.foldr (· * ·) 1 := by
        have hq0 : 0 < q := Nat.lt_trans (by decide) hF.1
        apply Nat.eq_of_mul_eq_mul_left hq0
        rw [Nat.mul_left_comm, ← he, h]
        rfl
      obtain ⟨q', h3, h4⟩ := prime_div qs (fun q h => hq q (List.mem_cons_of_mem _ h)) k (e / q) h2 hk
      exact ⟨q', List.mem_cons_of_mem _ h3, h4⟩

theorem lucas {p g f : Nat} (qs : List Nat) (hp : 1 < p) (hf : p - 1 < 2 ^ f) (hq : ∀ q ∈ qs, Ferm q) (hn : qs.foldr (· * ·) 1 = p - 1) (h1' : powM p f g (p - 1) = 1) (h2' : (qs.all fun q => powM p f g ((p - 1) / q) != 1) = true) : Ferm p := by
  have h1 : g ^ (p - 1) % p = 1 := by rw [← powM_eq p f g _ hf]; exact h1'
  have h2 : ∀ q ∈ qs, g ^ ((p - 1) / q) % p ≠ 1 := fun q hq => by
    rw [← powM_eq p f g _ (Nat.lt_of_le_of_lt (Nat.div_le_self _ _) hf)]
    have := List.all_eq_true.1 h2' q hq
    simpa using this
  clear h1' h2'
  have order : ∀ d, 0 < d → d < p - 1 → g ^ d % p ≠ 1 := fun d h0 hd h => by
    have hg := pow_one_gcd hp d (p - 1) h h1
    have e1 := Nat.div_mul_cancel (Nat.gcd_dvd_right d (p - 1))
    have hle : Nat.gcd d (p - 1) ≤ d := Nat.le_of_dvd h0 (Nat.gcd_dvd_left ..)
    have hgt : 0 < Nat.gcd d (p - 1) := Nat.gcd_pos_of_pos_left _ h0
    obtain ⟨E, hE⟩ : ∃ E, Nat.gcd d (p - 1) = E := ⟨_, rfl⟩
    rw [hE] at hg e1 hle hgt
    obtain ⟨k, hk⟩ : ∃ k, (p - 1) / E = k := ⟨_, rfl⟩
    rw [hk] at e1
    have hk1 : k ≠ 1 := fun h => by rw [h, Nat.one_mul] at e1; omega
    obtain ⟨q, hqm, hkq⟩ := prime_div qs hq k E (by rw [e1, hn]) hk1
    have hk2 : k = q * (k / q) := by have := Nat.div_add_mod k q; omega
    have hq0 : 0 < q := Nat.lt_trans (by decide) (hq q hqm).1
    have e2 : (p - 1) / q = E * (k / q) := by
      rw [← e1]
      conv => lhs; rw [hk2]
      rw [Nat.mul_assoc, Nat.mul_div_cancel_left _ hq0, Nat.mul_comm]
    exact h2 q hqm (by rw [e2]; exact pow_one_mul hp hg _)
  have nz : ∀ i, i < p - 1 → g ^ i % p ≠ 0 := fun i hi h => by
    have e : p - 1 = i + (p - 1 - i) := by omega
    rw [e, Nat.pow_add, Nat.mul_mod, h, Nat.zero_mul, Nat.zero_mod] at h1
    cases h1
  refine ⟨hp, fun x hx => ?_⟩
  have hxp : x % p < p := Nat.mod_lt _ (by omega)
  obtain ⟨i, hi, he⟩ := pigeon (p - 1) (fun i => g ^ i % p - 1) (fun i hi => by
      have := nz i hi
      have : g ^ i % p < p := Nat.mod_lt _ (by omega)
      show g ^ i % p - 1 < p - 1
      omega) (fun i j hi hj e => by
      have e' : g ^ i % p = g ^ j % p := by
        have h3 := nz i hi
        have h4 := nz j hj
        have e0 : g ^ i % p - 1 = g ^ j % p - 1 := e
        omega
      have key : ∀ a b, a < b → b < p - 1 → g ^ a % p = g ^ b % p → False := fun a b hab hb e => by
        have h3 : g ^ (p - 1 - a + a) % p = g ^ (p - 1 - a + b) % p := by rw [Nat.pow_add, Nat.pow_add, Nat.mul_mod, e, ← Nat.mul_mod]
        have e3 : p - 1 - a + a = p - 1 := by omega
        have e4 : p - 1 - a + b = (p - 1) + (b - a) := by omega
        rw [e3, h1, e4, pow_one_add h1] at h3
        exact order (b - a) (by omega) (by omega) h3.symm
      rcases Nat.lt_trichotomy i j with h | h | h
      · exact (key i j h hj e').elim
      · exact h
      · exact (key j i h hi e'.symm).elim) (x % p - 1) (by omega)
  have he' : g ^ i % p = x % p := by
    have h3 := nz i hi
    have e0 : g ^ i % p - 1 = x % p - 1 := he
    omega
  rw [Nat.pow_mod, ← he', ← Nat.pow_mod, ← Nat.pow_mul, Nat.mul_comm]
  exact pow_one_mul hp h1 i

theorem powM_is {b e c p f : Nat} (h : e < 2 ^ f) (hc : powM p f b e = c) : b ^ e % p = c := by rw [← powM_eq p f b e h, hc]

theorem ferm2 : Ferm 2 := ⟨by decide, fun x h => by rw [Nat.pow_one]; omega⟩

theorem ferm3 : Ferm 3 :=
  lucas (g := 2) (f := 2) [2] (of_decide_eq_true (by kernel_rfl)) (of_decide_eq_true (by kernel_rfl)) (by
      intro q hq
      simp only [List.mem_cons, List.not_mem_nil, or_false] at hq
      rcases hq with rfl
      · exact ferm2
      ) (by kernel_rfl) (by kernel_rfl) (by kernel_rfl)
theorem ferm5 : Ferm 5 :=
  lucas (g := 2) (f := 3) [2, 2] (of_decide_eq_true (by kernel_rfl)) (of_decide_eq_true (by kernel_rfl)) (by
      intro q hq
      simp only [List.mem_cons, List.not_mem_nil, or_false] at hq
      rcases hq with rfl | rfl
      · exact ferm2
      · exact ferm2
      ) (by kernel_rfl) (by kernel_rfl) (by kernel_rfl)
theorem ferm11 : Ferm 11 :=
  lucas (g := 2) (f := 4) [2, 5] (of_decide_eq_true (by kernel_rfl)) (of_decide_eq_true (by kernel_rfl)) (by
      intro q hq
      simp only [List.mem_cons, List.not_mem_nil, or_false] at hq
      rcases hq with rfl | rfl
      · exact ferm2
      · exact ferm5
      ) (by kernel_rfl) (by kernel_rfl) (by kernel_rfl)
theorem ferm353 : Ferm 353 :=
  lucas (g := 3) (f := 9) [2, 2, 2, 2, 2, 11] (of_decide_eq_true (by kernel_rfl)) (of_decide_eq_true (by kernel_rfl)) (by
      intro q hq
      simp only [List.mem_cons, List.not_mem_nil, or_false] at hq
      rcases hq with rfl | rfl | rfl | rfl | rfl | rfl
      · exact ferm2
      · exact ferm2
      · exact ferm2
      · exact ferm2
      · exact ferm2
      · exact ferm11
      ) (by kernel_rfl) (by kernel_rfl) (by kernel_rfl)
theorem ferm13 : Ferm 13 :=
  lucas (g := 2) (f := 4) [2, 2, 3] (of_decide_eq_true (by kernel_rfl)) (of_decide_eq_true (by kernel_rfl)) (by
      intro q hq
      simp only [List.mem_cons, List.not_mem_nil, or_false] at hq
      rcases hq with rfl | rfl | rfl
      · exact ferm2
      · exact ferm2
      · exact ferm3
      ) (by kernel_rfl) (by kernel_rfl) (by kernel_rfl)
theorem ferm97 : Ferm 97 :=
  lucas (g := 5) (f := 7) [2, 2, 2, 2, 2, 3] (of_decide_eq_true (by kernel_rfl)) (of_decide_eq_true (by kernel_rfl)) (by
      intro q hq
      simp only [List.mem_cons, List.not_mem_nil, or_false] at hq
      rcases hq with rfl | rfl | rfl | rfl | rfl | rfl
      · exact ferm2
      · exact ferm2
      · exact ferm2
      · exact ferm2
      · exact ferm2
      · exact ferm3
      ) (by kernel_rfl) (by kernel_rfl) (by kernel_rfl)
theorem ferm19 : Ferm 19 :=
  lucas (g := 2) (f := 5) [2, 3, 3] (of_decide_eq_true (by kernel_rfl)) (of_decide_eq_true (by kernel_rfl)) (by
      intro q hq
      simp only [List.mem_cons, List.not_mem_nil, or_false] at hq
      rcases hq with rfl | rfl | rfl
      · exact ferm2
      · exact ferm3
      · exact ferm3
      ) (by kernel_rfl) (by kernel_rfl) (by kernel_rfl)
theorem ferm419 : Ferm 419 :=
  lucas (g := 2) (f := 9) [2, 11, 19] (of_decide_eq_true (by kernel_rfl)) (of_decide_eq_true (by kernel_rfl)) (by
      intro q hq
      simp only [List.mem_cons, List.not_mem_nil, or_false] at hq
      rcases hq with rfl | rfl | rfl
      · exact ferm2
      · exact ferm11
      · exact ferm19
      ) (by kernel_rfl) (by kernel_rfl) (by kernel_rfl)
theorem ferm7 : Ferm 7 :=
  lucas (g := 3) (f := 3) [2, 3] (of_decide_eq_true (by kernel_rfl)) (of_decide_eq_true (by kernel_rfl)) (by
      intro q hq
      simp only [List.mem_cons, List.not_mem_nil, or_false] at hq
      rcases hq with rfl | rfl
      · exact ferm2
      · exact ferm3
      ) (by kernel_rfl) (by kernel_rfl) (by kernel_rfl)
theorem ferm569003 : Ferm 569003 :=
  lucas (g := 2) (f := 20) [2, 7, 97, 419] (of_decide_eq_true (by kernel_rfl)) (of_decide_eq_true (by kernel_rfl)) (by
      intro q hq
      simp only [List.mem_cons, List.not_mem_nil, or_false] at hq
      rcases hq with rfl | rfl | rfl | rfl
      · exact ferm2
      · exact ferm7
      · exact ferm97
      · exact ferm419
      ) (by kernel_rfl) (by kernel_rfl) (by kernel_rfl)
theorem ferm29 : Ferm 29 :=
  lucas (g := 2) (f := 5) [2, 2, 7] (of_decide_eq_true (by kernel_rfl)) (of_decide_eq_true (by kernel_rfl)) (by
      intro q hq
      simp only [List.mem_cons, List.not_mem_nil, or_false] at hq
      rcases hq with rfl | rfl | rfl
      · exact ferm2
      · exact ferm2
      · exact ferm7
      ) (by kernel_rfl) (by kernel_rfl) (by kernel_rfl)
theorem ferm2437 : Ferm 2437 :=
  lucas (g := 2) (f := 12) [2, 2, 3, 7, 29] (of_decide_eq_true (by kernel_rfl)) (of_decide_eq_true (by kernel_rfl)) (by
      intro q hq
      simp only [List.mem_cons, List.not_mem_nil, or_false] at hq
      rcases hq with rfl | rfl | rfl | rfl | rfl
      · exact ferm2
      · exact ferm2
      · exact ferm3
      · exact ferm7
      · exact ferm29
      ) (by kernel_rfl) (by kernel_rfl) (by kernel_rfl)
theorem ferm2773320623 : Ferm 2773320623 :=
  lucas (g := 5) (f := 32) [2, 2437, 569003] (of_decide_eq_true (by kernel_rfl)) (of_decide_eq_true (by kernel_rfl)) (by
      intro q hq
      simp only [List.mem_cons, List.not_mem_nil, or_false] at hq
      rcases hq with rfl | rfl | rfl
      · exact ferm2
      · exact ferm2437
      · exact ferm569003
      ) (by kernel_rfl) (by kernel_rfl) (by kernel_rfl)
theorem ferm72106336199 : Ferm 72106336199 :=
  lucas (g := 7) (f := 37) [2, 13, 2773320623] (of_decide_eq_true (by kernel_rfl)) (of_decide_eq_true (by kernel_rfl)) (by
      intro q hq
      simp only [List.mem_cons, List.not_mem_nil, or_false] at hq
      rcases hq with rfl | rfl | rfl
      · exact ferm2
      · exact ferm13
      · exact ferm2773320623
      ) (by kernel_rfl) (by kernel_rfl) (by kernel_rfl)
theorem ferm23 : Ferm 23 :=
  lucas (g := 5) (f := 5) [2, 11] (of_decide_eq_true (by kernel_rfl)) (of_decide_eq_true (by kernel_rfl)) (by
      intro q hq
      simp only [List.mem_cons, List.not_mem_nil, or_false] at hq
      rcases hq with rfl | rfl
      · exact ferm2
      · exact ferm11
      ) (by kernel_rfl) (by kernel_rfl) (by kernel_rfl)
theorem ferm47 : Ferm 47 :=
  lucas (g := 5) (f := 6) [2, 23] (of_decide_eq_true (by kernel_rfl)) (of_decide_eq_true (by kernel_rfl)) (by
      intro q hq
      simp only [List.mem_cons, List.not_mem_nil, or_false] at hq
      rcases hq with rfl | rfl
      · exact ferm2
      · exact ferm23
      ) (by kernel_rfl) (by kernel_rfl) (by kernel_rfl)
theorem ferm17 : Ferm 17 :=
  lucas (g := 3) (f := 5) [2, 2, 2, 2] (of_decide_eq_true (by kernel_rfl)) (of_decide_eq_true (by kernel_rfl)) (by
      intro q hq
      simp only [List.mem_cons, List.not_mem_nil, or_false] at hq
      rcases hq with rfl | rfl | rfl | rfl
      · exact ferm2
      · exact ferm2
      · exact ferm2
      · exact ferm2
      ) (by kernel_rfl) (by kernel_rfl) (by kernel_rfl)
theorem ferm103 : Ferm 103 :=
  lucas (g := 5) (f := 7) [2, 3, 17] (of_decide_eq_true (by kernel_rfl)) (of_decide_eq_true (by kernel_rfl)) (by
      intro q hq
      simp only [List.mem_cons, List.not_mem_nil, or_false] at hq
      rcases hq with rfl | rfl | rfl
      · exact ferm2
      · exact ferm3
      · exact ferm17
      ) (by kernel_rfl) (by kernel_rfl) (by kernel_rfl)
theorem ferm991 : Ferm 991 :=
  lucas (g := 6) (f := 10) [2, 3, 3, 5, 11] (of_decide_eq_true (by kernel_rfl)) (of_decide_eq_true (by kernel_rfl)) (by
      intro q hq
      simp only [List.mem_cons, List.not_mem_nil, or_false] at hq
      rcases hq with rfl | rfl | rfl | rfl | rfl
      · exact ferm2
      · exact ferm3
      · exact ferm3
      · exact ferm5
      · exact ferm11
      ) (by kernel_rfl) (by kernel_rfl) (by kernel_rfl)
theorem ferm8574133 : Ferm 8574133 :=
  lucas (g := 2) (f := 24) [2, 2, 3, 7, 103, 991] (of_decide_eq_true (by kernel_rfl)) (of_decide_eq_true (by kernel_rfl)) (by
      intro q hq
      simp only [List.mem_cons, List.not_mem_nil, or_false] at hq
      rcases hq with rfl | rfl | rfl | rfl | rfl | rfl
      · exact ferm2
      · exact ferm2
      · exact ferm3
      · exact ferm7
      · exact ferm103
      · exact ferm991
      ) (by kernel_rfl) (by kernel_rfl) (by kernel_rfl)
theorem ferm127 : Ferm 127 :=
  lucas (g := 3) (f := 7) [2, 3, 3, 7] (of_decide_eq_true (by kernel_rfl)) (of_decide_eq_true (by kernel_rfl)) (by
      intro q hq
      simp only [List.mem_cons, List.not_mem_nil, or_false] at hq
      rcases hq with rfl | rfl | rfl | rfl
      · exact ferm2
      · exact ferm3
      · exact ferm3
      · exact ferm7
      ) (by kernel_rfl) (by kernel_rfl) (by kernel_rfl)
theorem ferm1919519569386763 : Ferm 1919519569386763 :=
  lucas (g := 2) (f := 51) [2, 3, 7, 19, 47, 47, 127, 8574133] (of_decide_eq_true (by kernel_rfl)) (of_decide_eq_true (by kernel_rfl)) (by
      intro q hq
      simp only [List.mem_cons, List.not_mem_nil, or_false] at hq
      rcases hq with rfl | rfl | rfl | rfl | rfl | rfl | rfl | rfl
      · exact ferm2
      · exact ferm3
      · exact ferm7
      · exact ferm19
      · exact ferm47
      · exact ferm47
      · exact ferm127
      · exact ferm8574133
      ) (by kernel_rfl) (by kernel_rfl) (by kernel_rfl)
theorem ferm41 : Ferm 41 :=
  lucas (g := 6) (f := 6) [2, 2, 2, 5] (of_decide_eq_true (by kernel_rfl)) (of_decide_eq_true (by kernel_rfl)) (by
      intro q hq
      simp only [List.mem_cons, List.not_mem_nil, or_false] at hq
      rcases hq with rfl | rfl | rfl | rfl
      · exact ferm2
      · exact ferm2
      · exact ferm2
      · exact ferm5
      ) (by kernel_rfl) (by kernel_rfl) (by kernel_rfl)
theorem ferm83 : Ferm 83 :=
  lucas (g := 2) (f := 7) [2, 41] (of_decide_eq_true (by kernel_rfl)) (of_decide_eq_true (by kernel_rfl)) (by
      intro q hq
      simp only [List.mem_cons, List.not_mem_nil, or_false] at hq
      rcases hq with rfl | rfl
      · exact ferm2
      · exact ferm41
      ) (by kernel_rfl) (by kernel_rfl) (by kernel_rfl)
theorem ferm9463 : Ferm 9463 :=
  lucas (g := 3) (f := 14) [2, 3, 19, 83] (of_decide_eq_true (by kernel_rfl)) (of_decide_eq_true (by kernel_rfl)) (by
      intro q hq
      simp only [List.mem_cons, List.not_mem_nil, or_false] at hq
      rcases hq with rfl | rfl | rfl | rfl
      · exact ferm2
      · exact ferm3
      · exact ferm19
      · exact ferm83
      ) (by kernel_rfl) (by kernel_rfl) (by kernel_rfl)
theorem ferm37853 : Ferm 37853 :=
  lucas (g := 2) (f := 16) [2, 2, 9463] (of_decide_eq_true (by kernel_rfl)) (of_decide_eq_true (by kernel_rfl)) (by
      intro q hq
      simp only [List.mem_cons, List.not_mem_nil, or_false] at hq
      rcases hq with rfl | rfl | rfl
      · exact ferm2
      · exact ferm2
      · exact ferm9463
      ) (by kernel_rfl) (by kernel_rfl) (by kernel_rfl)
theorem ferm75707 : Ferm 75707 :=
  lucas (g := 2) (f := 17) [2, 37853] (of_decide_eq_true (by kernel_rfl)) (of_decide_eq_true (by kernel_rfl)) (by
      intro q hq
      simp only [List.mem_cons, List.not_mem_nil, or_false] at hq
      rcases hq with rfl | rfl
      · exact ferm2
      · exact ferm37853
      ) (by kernel_rfl) (by kernel_rfl) (by kernel_rfl)
theorem ferm75445702479781427272750846543864801 : Ferm 75445702479781427272750846543864801 :=
  lucas (g := 7) (f := 116) [2, 2, 2, 2, 2, 3, 3, 5, 5, 75707, 72106336199, 1919519569386763] (of_decide_eq_true (by kernel_rfl)) (of_decide_eq_true (by kernel_rfl)) (by
      intro q hq
      simp only [List.mem_cons, List.not_mem_nil, or_false] at hq
      rcases hq with rfl | rfl | rfl | rfl | rfl | rfl | rfl | rfl | rfl | rfl | rfl | rfl
      · exact ferm2
      · exact ferm2
      · exact ferm2
      · exact ferm2
      · exact ferm2
      · exact ferm3
      · exact ferm3
      · exact ferm5
      · exact ferm5
      · exact ferm75707
      · exact ferm72106336199
      · exact ferm1919519569386763
      ) (by kernel_rfl) (by kernel_rfl) (by kernel_rfl)
theorem ferm131 : Ferm 131 :=
  lucas (g := 2) (f := 8) [2, 5, 13] (of_decide_eq_true (by kernel_rfl)) (of_decide_eq_true (by kernel_rfl)) (by
      intro q hq
      simp only [List.mem_cons, List.not_mem_nil, or_false] at hq
      rcases hq with rfl | rfl | rfl
      · exact ferm2
      · exact ferm5
      · exact ferm13
      ) (by kernel_rfl) (by kernel_rfl) (by kernel_rfl)
theorem ferm132049 : Ferm 132049 :=
  lucas (g := 26) (f := 18) [2, 2, 2, 2, 3, 3, 7, 131] (of_decide_eq_true (by kernel_rfl)) (of_decide_eq_true (by kernel_rfl)) (by
      intro q hq
      simp only [List.mem_cons, List.not_mem_nil, or_false] at hq
      rcases hq with rfl | rfl | rfl | rfl | rfl | rfl | rfl | rfl
      · exact ferm2
      · exact ferm2
      · exact ferm2
      · exact ferm2
      · exact ferm3
      · exact ferm3
      · exact ferm7
      · exact ferm131
      ) (by kernel_rfl) (by kernel_rfl) (by kernel_rfl)
theorem ferm53 : Ferm 53 :=
  lucas (g := 2) (f := 6) [2, 2, 13] (of_decide_eq_true (by kernel_rfl)) (of_decide_eq_true (by kernel_rfl)) (by
      intro q hq
      simp only [List.mem_cons, List.not_mem_nil, or_false] at hq
      rcases hq with rfl | rfl | rfl
      · exact ferm2
      · exact ferm2
      · exact ferm13
      ) (by kernel_rfl) (by kernel_rfl) (by kernel_rfl)
theorem ferm107 : Ferm 107 :=
  lucas (g := 2) (f := 7) [2, 53] (of_decide_eq_true (by kernel_rfl)) (of_decide_eq_true (by kernel_rfl)) (by
      intro q hq
      simp only [List.mem_cons, List.not_mem_nil, or_false] at hq
      rcases hq with rfl | rfl
      · exact ferm2
      · exact ferm53
      ) (by kernel_rfl) (by kernel_rfl) (by kernel_rfl)
theorem ferm1723 : Ferm 1723 :=
  lucas (g := 3) (f := 11) [2, 3, 7, 41] (of_decide_eq_true (by kernel_rfl)) (of_decide_eq_true (by kernel_rfl)) (by
      intro q hq
      simp only [List.mem_cons, List.not_mem_nil, or_false] at hq
      rcases hq with rfl | rfl | rfl | rfl
      · exact ferm2
      · exact ferm3
      · exact ferm7
      · exact ferm41
      ) (by kernel_rfl) (by kernel_rfl) (by kernel_rfl)
theorem ferm430751 : Ferm 430751 :=
  lucas (g := 17) (f := 19) [2, 5, 5, 5, 1723] (of_decide_eq_true (by kernel_rfl)) (of_decide_eq_true (by kernel_rfl)) (by
      intro q hq
      simp only [List.mem_cons, List.not_mem_nil, or_false] at hq
      rcases hq with rfl | rfl | rfl | rfl | rfl
      · exact ferm2
      · exact ferm5
      · exact ferm5
      · exact ferm5
      · exact ferm1723
      ) (by kernel_rfl) (by kernel_rfl) (by kernel_rfl)
theorem ferm43 : Ferm 43 :=
  lucas (g := 3) (f := 6) [2, 3, 7] (of_decide_eq_true (by kernel_rfl)) (of_decide_eq_true (by kernel_rfl)) (by
      intro q hq
      simp only [List.mem_cons, List.not_mem_nil, or_false] at hq
      rcases hq with rfl | rfl | rfl
      · exact ferm2
      · exact ferm3
      · exact ferm7
      ) (by kernel_rfl) (by kernel_rfl) (by kernel_rfl)
theorem ferm173 : Ferm 173 :=
  lucas (g := 2) (f := 8) [2, 2, 43] (of_decide_eq_true (by kernel_rfl)) (of_decide_eq_true (by kernel_rfl)) (by
      intro q hq
      simp only [List.mem_cons, List.not_mem_nil, or_false] at hq
      rcases hq with rfl | rfl | rfl
      · exact ferm2
      · exact ferm2
      · exact ferm43
      ) (by kernel_rfl) (by kernel_rfl) (by kernel_rfl)
theorem ferm4153 : Ferm 4153 :=
  lucas (g := 5) (f := 13) [2, 2, 2, 3, 173] (of_decide_eq_true (by kernel_rfl)) (of_decide_eq_true (by kernel_rfl)) (by
      intro q hq
      simp only [List.mem_cons, List.not_mem_nil, or_false] at hq
      rcases hq with rfl | rfl | rfl | rfl | rfl
      · exact ferm2
      · exact ferm2
      · exact ferm2
      · exact ferm3
      · exact ferm173
      ) (by kernel_rfl) (by kernel_rfl) (by kernel_rfl)
theorem ferm31 : Ferm 31 :=
  lucas (g := 3) (f := 5) [2, 3, 5] (of_decide_eq_true (by kernel_rfl)) (of_decide_eq_true (by kernel_rfl)) (by
      intro q hq
      simp only [List.mem_cons, List.not_mem_nil, or_false] at hq
      rcases hq with rfl | rfl | rfl
      · exact ferm2
      · exact ferm3
      · exact ferm5
      ) (by kernel_rfl) (by kernel_rfl) (by kernel_rfl)
theorem ferm37 : Ferm 37 :=
  lucas (g := 2) (f := 6) [2, 2, 3, 3] (of_decide_eq_true (by kernel_rfl)) (of_decide_eq_true (by kernel_rfl)) (by
      intro q hq
      simp only [List.mem_cons, List.not_mem_nil, or_false] at hq
      rcases hq with rfl | rfl | rfl | rfl
      · exact ferm2
      · exact ferm2
      · exact ferm3
      · exact ferm3
      ) (by kernel_rfl) (by kernel_rfl) (by kernel_rfl)
theorem ferm223 : Ferm 223 :=
  lucas (g := 3) (f := 8) [2, 3, 37] (of_decide_eq_true (by kernel_rfl)) (of_decide_eq_true (by kernel_rfl)) (by
      intro q hq
      simp only [List.mem_cons, List.not_mem_nil, or_false] at hq
      rcases hq with rfl | rfl | rfl
      · exact ferm2
      · exact ferm3
      · exact ferm37
      ) (by kernel_rfl) (by kernel_rfl) (by kernel_rfl)
theorem ferm31757755568855353 : Ferm 31757755568855353 :=
  lucas (g := 10) (f := 55) [2, 2, 2, 3, 31, 107, 223, 4153, 430751] (of_decide_eq_true (by kernel_rfl)) (of_decide_eq_true (by kernel_rfl)) (by
      intro q hq
      simp only [List.mem_cons, List.not_mem_nil, or_false] at hq
      rcases hq with rfl | rfl | rfl | rfl | rfl | rfl | rfl | rfl | rfl
      · exact ferm2
      · exact ferm2
      · exact ferm2
      · exact ferm3
      · exact ferm31
      · exact ferm107
      · exact ferm223
      · exact ferm4153
      · exact ferm430751
      ) (by kernel_rfl) (by kernel_rfl) (by kernel_rfl)
theorem ferm59 : Ferm 59 :=
  lucas (g := 2) (f := 6) [2, 29] (of_decide_eq_true (by kernel_rfl)) (of_decide_eq_true (by kernel_rfl)) (by
      intro q hq
      simp only [List.mem_cons, List.not_mem_nil, or_false] at hq
      rcases hq with rfl | rfl
      · exact ferm2
      · exact ferm29
      ) (by kernel_rfl) (by kernel_rfl) (by kernel_rfl)
theorem ferm487 : Ferm 487 :=
  lucas (g := 3) (f := 9) [2, 3, 3, 3, 3, 3] (of_decide_eq_true (by kernel_rfl)) (of_decide_eq_true (by kernel_rfl)) (by
      intro q hq
      simp only [List.mem_cons, List.not_mem_nil, or_false] at hq
      rcases hq with rfl | rfl | rfl | rfl | rfl | rfl
      · exact ferm2
      · exact ferm3
      · exact ferm3
      · exact ferm3
      · exact ferm3
      · exact ferm3
      ) (by kernel_rfl) (by kernel_rfl) (by kernel_rfl)
theorem ferm57467 : Ferm 57467 :=
  lucas (g := 2) (f := 16) [2, 59, 487] (of_decide_eq_true (by kernel_rfl)) (of_decide_eq_true (by kernel_rfl)) (by
      intro q hq
      simp only [List.mem_cons, List.not_mem_nil, or_false] at hq
      rcases hq with rfl | rfl | rfl
      · exact ferm2
      · exact ferm59
      · exact ferm487
      ) (by kernel_rfl) (by kernel_rfl) (by kernel_rfl)
theorem ferm3727 : Ferm 3727 :=
  lucas (g := 3) (f := 12) [2, 3, 3, 3, 3, 23] (of_decide_eq_true (by kernel_rfl)) (of_decide_eq_true (by kernel_rfl)) (by
      intro q hq
      simp only [List.mem_cons, List.not_mem_nil, or_false] at hq
      rcases hq with rfl | rfl | rfl | rfl | rfl | rfl
      · exact ferm2
      · exact ferm3
      · exact ferm3
      · exact ferm3
      · exact ferm3
      · exact ferm23
      ) (by kernel_rfl) (by kernel_rfl) (by kernel_rfl)
theorem ferm1923133 : Ferm 1923133 :=
  lucas (g := 2) (f := 21) [2, 2, 3, 43, 3727] (of_decide_eq_true (by kernel_rfl)) (of_decide_eq_true (by kernel_rfl)) (by
      intro q hq
      simp only [List.mem_cons, List.not_mem_nil, or_false] at hq
      rcases hq with rfl | rfl | rfl | rfl | rfl
      · exact ferm2
      · exact ferm2
      · exact ferm3
      · exact ferm43
      · exact ferm3727
      ) (by kernel_rfl) (by kernel_rfl) (by kernel_rfl)
theorem ferm74058212732561358302231226437062788676166966415465897661863160754340907 : Ferm 74058212732561358302231226437062788676166966415465897661863160754340907 :=
  lucas (g := 2) (f := 236) [2, 3, 353, 57467, 132049, 1923133, 31757755568855353, 75445702479781427272750846543864801] (of_decide_eq_true (by kernel_rfl)) (of_decide_eq_true (by kernel_rfl)) (by
      intro q hq
      simp only [List.mem_cons, List.not_mem_nil, or_false] at hq
      rcases hq with rfl | rfl | rfl | rfl | rfl | rfl | rfl | rfl
      · exact ferm2
      · exact ferm3
      · exact ferm353
      · exact ferm57467
      · exact ferm132049
      · exact ferm1923133
      · exact ferm31757755568855353
      · exact ferm75445702479781427272750846543864801
      ) (by kernel_rfl) (by kernel_rfl) (by kernel_rfl)
theorem ferm239 : Ferm 239 :=
  lucas (g := 7) (f := 8) [2, 7, 17] (of_decide_eq_true (by kernel_rfl)) (of_decide_eq_true (by kernel_rfl)) (by
      intro q hq
      simp only [List.mem_cons, List.not_mem_nil, or_false] at hq
      rcases hq with rfl | rfl | rfl
      · exact ferm2
      · exact ferm7
      · exact ferm17
      ) (by kernel_rfl) (by kernel_rfl) (by kernel_rfl)
theorem ferm479 : Ferm 479 :=
  lucas (g := 13) (f := 9) [2, 239] (of_decide_eq_true (by kernel_rfl)) (of_decide_eq_true (by kernel_rfl)) (by
      intro q hq
      simp only [List.mem_cons, List.not_mem_nil, or_false] at hq
      rcases hq with rfl | rfl
      · exact ferm2
      · exact ferm239
      ) (by kernel_rfl) (by kernel_rfl) (by kernel_rfl)
theorem ferm32573 : Ferm 32573 :=
  lucas (g := 2) (f := 15) [2, 2, 17, 479] (of_decide_eq_true (by kernel_rfl)) (of_decide_eq_true (by kernel_rfl)) (by
      intro q hq
      simp only [List.mem_cons, List.not_mem_nil, or_false] at hq
      rcases hq with rfl | rfl | rfl | rfl
      · exact ferm2
      · exact ferm2
      · exact ferm17
      · exact ferm479
      ) (by kernel_rfl) (by kernel_rfl) (by kernel_rfl)
theorem ferm65147 : Ferm 65147 :=
  lucas (g := 2) (f := 16) [2, 32573] (of_decide_eq_true (by kernel_rfl)) (of_decide_eq_true (by kernel_rfl)) (by
      intro q hq
      simp only [List.mem_cons, List.not_mem_nil, or_false] at hq
      rcases hq with rfl | rfl
      · exact ferm2
      · exact ferm32573
      ) (by kernel_rfl) (by kernel_rfl) (by kernel_rfl)
theorem ferm57896044618658097711785492504343953926634992332820282019728792003956564819949 : Ferm 57896044618658097711785492504343953926634992332820282019728792003956564819949 :=
  lucas (g := 2) (f := 255) [2, 2, 3, 65147, 74058212732561358302231226437062788676166966415465897661863160754340907] (of_decide_eq_true (by kernel_rfl)) (of_decide_eq_true (by kernel_rfl)) (by
      intro q hq
      simp only [List.mem_cons, List.not_mem_nil, or_false] at hq
      rcases hq with rfl | rfl | rfl | rfl | rfl
      · exact ferm2
      · exact ferm2
      · exact ferm3
      · exact ferm65147
      · exact ferm74058212732561358302231226437062788676166966415465897661863160754340907
      ) (by kernel_rfl) (by kernel_rfl) (by kernel_rfl)
theorem fermP : Ferm pN := ferm57896044618658097711785492504343953926634992332820282019728792003956564819949
end Go.Proofs.Ytmebjoehmheknaa
