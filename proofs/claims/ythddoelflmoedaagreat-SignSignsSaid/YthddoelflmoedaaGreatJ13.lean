/-
  Plain: powers by squares; one digit set; the root of 4.
  Plain arithmetic: what Fermat says of a number, from a certificate (a number whose powers are as many as there may be); and that p is such a number. No condition. No program in sight.
  Plain arithmetic: numbers modulo n as the elements of a ring; what Fermat says there; roots of quotients. No condition. No program in sight.
  Layer 4: the program's numbers by their classes modulo p.
  Plain arithmetic: the points of the curve -x² + y² = 1 + d x² y² modulo p, their sum, and that it is a group. No condition. No program in sight.
  Plain arithmetic: the points of the curve are a group; multiples. No condition. No program in sight.
  Plain arithmetic: what the program's and the document's formulas for points reckon. No condition. No program in sight.
  A struct built of rows of one size. No condition on the program.
  The end of a drawn region's head that makes three or four variables.
  Layer 6: points: what four numbers tell a point; zero, the curve's number, the negative, the sum.
-/
import Derived.Test.YthddoelflmoedaaGreatJ05
import Derived.Test.YthddoelflmoedaaGreatJ09
import Derived.Test.YthddoelflmoedaaGreatJ12
set_option linter.unusedVariables false
set_option linter.unusedSimpArgs false
namespace Go.Proofs.YthddoelflmoedaaGreat
open Go.RowKit
set_option maxRecDepth 100000

theorem digs_set {B k j A A' d : Nat} (hB : 0 < B) (hj : j < k) (hA : A < B ^ k) (hA' : A' < B ^ k) (hd : d < B) (h : A' + B ^ j * (A / B ^ j % B) = A + B ^ j * d) : (digs B k A).set j d = digs B k A' := by
 have hl : j < (digs B k A).length := by rw [digs_length]; exact hj
 have hv := val_set (B := B) (digs B k A) j d hl
 have hg : (digs B k A)[j] = A / B ^ j % B := by
  have := digs_getElem? B k A j hj
  rw [List.getElem?_eq_getElem hl] at this
  exact Option.some.inj this
 rw [hg, val_digs, Nat.mod_eq_of_lt hA] at hv
 apply val_inj ((digs_Digs hB k A).set j hd) (digs_Digs hB k A')
 ·rw [List.length_set, digs_length, digs_length]
 ·rw [val_digs, Nat.mod_eq_of_lt hA']
  omega
def powM (p : Nat) : Nat → Nat → Nat → Nat
 | 0, _, _ => 1 % p
 | f + 1, b, e => if e % 2 = 1 then b * powM p f (b * b % p) (e / 2) % p else powM p f (b * b % p) (e / 2)
theorem powM_eq (p : Nat) : ∀ (f b e : Nat), e < 2 ^ f → powM p f b e = b ^ e % p
 | 0, b, e, h => by
  have : e = 0 := by rw [Nat.pow_zero] at h; omega
  subst this
  rfl
 | f + 1, b, e, h => by
  have h2 : e / 2 < 2 ^ f := by rw [Nat.pow_succ] at h; omega
  have ih := powM_eq p f (b * b % p) (e / 2) h2
  have e1 : (b * b % p) ^ (e / 2) % p = b ^ (2 * (e / 2)) % p := by
   rw [← Nat.pow_mod, Nat.pow_mul, Nat.pow_two]
  unfold powM
  rw [ih, e1]
  split
  ·rename_i h1
   have : e = 2 * (e / 2) + 1 := by omega
   conv => rhs; rw [this, Nat.pow_succ, Nat.mul_comm]
   exact (Nat.mul_mod_mod _ _ _)
  ·rename_i h1
   have : e = 2 * (e / 2) := by omega
   conv => rhs; rw [this]
end Go.Proofs.YthddoelflmoedaaGreat
namespace Go.Proofs.YthddoelflmoedaaGreat
open Go.RowKit
set_option maxRecDepth 100000

def Ferm (p : Nat) : Prop := 1 < p ∧ ∀ x, x % p ≠ 0 → x ^ (p - 1) % p = 1

theorem Ferm.euclid {p : Nat} (h : Ferm p) {a b : Nat} (hab : a * b % p = 0) : a % p = 0 ∨ b % p = 0 := by
 by_cases ha : a % p = 0
 ·exact .inl ha
 ·right
  have h1 := h.2 a ha
  have h2 : p - 1 = (p - 2) + 1 := by have := h.1; omega
  have e : a ^ (p - 1) * b % p = b % p := by rw [Nat.mul_mod, h1, Nat.one_mul, Nat.mod_mod]
  rw [← e, h2, Nat.pow_succ, Nat.mul_assoc, Nat.mul_mod, hab, Nat.mul_zero, Nat.zero_mod]

theorem pigeon : ∀ (n : Nat) (f : Nat → Nat), (∀ i, i < n → f i < n) → (∀ i j, i < n → j < n → f i = f j → i = j) → ∀ y, y < n → ∃ i, i < n ∧ f i = y
 | 0, _, _, _, y, hy => absurd hy (Nat.not_lt_zero _)
 | n + 1, f, hf, hi, y, hy => by
  have hc := hf n (Nat.lt_succ_self _)
  obtain ⟨c, hcn⟩ : ∃ c, f n = c := ⟨_, rfl⟩
  rw [hcn] at hc
  have hne : ∀ i, i < n → f i ≠ c := fun i h e => by
   have := hi i n (by omega) (by omega) (by rw [e, hcn])
   omega
  have ih := pigeon n (fun i => if f i = n then c else f i) (fun i h => by
   have h1 := hf i (by omega)
   show (if f i = n then c else f i) < n
   split
   ·rename_i e
    have : c ≠ n := fun h' => hne i h (by rw [e, h'])
    omega
   ·omega) (fun i j h1 h2 e => by
   have e' : (if f i = n then c else f i) = (if f j = n then c else f j) := e
   by_cases a : f i = n
   ·by_cases b : f j = n
    ·exact hi i j (by omega) (by omega) (by rw [a, b])
    ·rw [if_pos a, if_neg b] at e'
     exact absurd e'.symm (hne j h2)
   ·by_cases b : f j = n
    ·rw [if_neg a, if_pos b] at e'
     exact absurd e' (hne i h1)
    ·rw [if_neg a, if_neg b] at e'
     exact hi i j (by omega) (by omega) e')
  by_cases hyn : y = n
  ·subst hyn
   by_cases hcy : c = y
   ·exact ⟨y, by omega, by rw [hcn, hcy]⟩
   ·obtain ⟨i, h1, h2⟩ := ih c (by omega)
    have h2' : (if f i = y then c else f i) = c := h2
    by_cases a : f i = y
    ·exact ⟨i, by omega, a⟩
    ·rw [if_neg a] at h2'
     exact absurd h2' (hne i h1)
  ·obtain ⟨i, h1, h2⟩ := ih y (by omega)
   have h2' : (if f i = n then c else f i) = y := h2
   by_cases a : f i = n
   ·rw [if_pos a] at h2'
    exact ⟨n, by omega, by rw [hcn, h2']⟩
   ·rw [if_neg a] at h2'
    exact ⟨i, by omega, h2'⟩

theorem pow_one_add {g p a b : Nat} (ha : g ^ a % p = 1) : g ^ (a + b) % p = g ^ b % p := by
 rw [Nat.pow_add, Nat.mul_mod, ha, Nat.one_mul, Nat.mod_mod]
theorem pow_one_mul {g p a : Nat} (hp : 1 < p) (ha : g ^ a % p = 1) : ∀ k, g ^ (a * k) % p = 1
 | 0 => by rw [Nat.mul_zero, Nat.pow_zero]; exact Nat.mod_eq_of_lt hp
 | k + 1 => by rw [Nat.mul_succ, Nat.add_comm, pow_one_add ha, pow_one_mul hp ha k]
theorem pow_one_mod {g p a b : Nat} (hp : 1 < p) (ha : g ^ a % p = 1) (hb : g ^ b % p = 1) : g ^ (b % a) % p = 1 := by
 have h := Nat.div_add_mod b a
 rw [← h, pow_one_add (pow_one_mul hp ha _)] at hb
 exact hb
theorem pow_one_gcd {g p : Nat} (hp : 1 < p) (a b : Nat) : g ^ a % p = 1 → g ^ b % p = 1 → g ^ (Nat.gcd a b) % p = 1 := by
 induction a, b using Nat.gcd.induction with
 | H0 n => intro _ h; rwa [Nat.gcd_zero_left]
 | H1 m n hm ih =>
  intro ha hb
  rw [Nat.gcd_rec]
  exact ih (pow_one_mod hp ha hb) ha

theorem prime_div : ∀ (qs : List Nat), (∀ q ∈ qs, Ferm q) → ∀ (k e : Nat), k * e = qs.foldr (· * ·) 1 → k ≠ 1 → ∃ q ∈ qs, k % q = 0
 | [], _, k, e, h, hk => absurd (Nat.eq_one_of_mul_eq_one_right h) hk
 | q :: qs, hq, k, e, h, hk => by
  have hF := hq q (List.mem_cons_self ..)
  have h0 : k * e % q = 0 := by rw [h]; exact Nat.mul_mod_right _ _
  rcases hF.euclid h0 with h1 | h1
  ·exact ⟨q, List.mem_cons_self .., h1⟩
  ·have he : e = q * (e / q) := by have := Nat.div_add_mod e q; omega
   have h2 : k * (e / q) = qs.foldr (· * ·) 1 := by
    have hq0 : 0 < q := Nat.lt_trans (by decide) hF.1
    apply Nat.eq_of_mul_eq_mul_left hq0
    rw [Nat.mul_left_comm, ← he, h]
    rfl
   obtain ⟨q', h3, h4⟩ := prime_div qs (fun q h => hq q (List.mem_cons_of_mem _ h)) k (e / q) h2 hk
   exact ⟨q', List.mem_cons_of_mem _ h3, h4⟩

theorem lucas {p g f : Nat} (qs : List Nat) (hp : 1 < p) (hf : p - 1 < 2 ^ f) (hq : ∀ q ∈ qs, Ferm q) (hn : qs.foldr (· * ·) 1 = p - 1) (h1' : powM p f g (p - 1) = 1) (h2' : (qs.all fun q => powM p f g ((p - 1) / q) != 1) = true) : Ferm p := by
 have h1 : g ^ (p - 1) % p = 1 := by rw [← powM_eq p f g _ hf]; exact h1'
 have h2 : ∀ q ∈ qs, g ^ ((p - 1) / q) % p ≠ 1 := fun q hq => by
  rw [← powM_eq p f g _ (Nat.lt_of_le_of_lt (Nat.div_le_self _ _) hf)]
  have := List.all_eq_true.1 h2' q hq
  simpa using this
 clear h1' h2'
 have order : ∀ d, 0 < d → d < p - 1 → g ^ d % p ≠ 1 := fun d h0 hd h => by
  have hg := pow_one_gcd hp d (p - 1) h h1
  have e1 := Nat.div_mul_cancel (Nat.gcd_dvd_right d (p - 1))
  have hle : Nat.gcd d (p - 1) ≤ d := Nat.le_of_dvd h0 (Nat.gcd_dvd_left ..)
  have hgt : 0 < Nat.gcd d (p - 1) := Nat.gcd_pos_of_pos_left _ h0
  obtain ⟨E, hE⟩ : ∃ E, Nat.gcd d (p - 1) = E := ⟨_, rfl⟩
  rw [hE] at hg e1 hle hgt
  obtain ⟨k, hk⟩ : ∃ k, (p - 1) / E = k := ⟨_, rfl⟩
  rw [hk] at e1
  have hk1 : k ≠ 1 := fun h => by rw [h, Nat.one_mul] at e1; omega
  obtain ⟨q, hqm, hkq⟩ := prime_div qs hq k E (by rw [e1, hn]) hk1
  have hk2 : k = q * (k / q) := by have := Nat.div_add_mod k q; omega
  have hq0 : 0 < q := Nat.lt_trans (by decide) (hq q hqm).1
  have e2 : (p - 1) / q = E * (k / q) := by
   rw [← e1]
   conv => lhs; rw [hk2]
   rw [Nat.mul_assoc, Nat.mul_div_cancel_left _ hq0, Nat.mul_comm]
  exact h2 q hqm (by rw [e2]; exact pow_one_mul hp hg _)
 have nz : ∀ i, i < p - 1 → g ^ i % p ≠ 0 := fun i hi h => by
  have e : p - 1 = i + (p - 1 - i) := by omega
  rw [e, Nat.pow_add, Nat.mul_mod, h, Nat.zero_mul, Nat.zero_mod] at h1
  cases h1
 refine ⟨hp, fun x hx => ?_⟩
 have hxp : x % p < p := Nat.mod_lt _ (by omega)
 obtain ⟨i, hi, he⟩ := pigeon (p - 1) (fun i => g ^ i % p - 1) (fun i hi => by
   have := nz i hi
   have : g ^ i % p < p := Nat.mod_lt _ (by omega)
   show g ^ i % p - 1 < p - 1
   omega) (fun i j hi hj e => by
   have e' : g ^ i % p = g ^ j % p := by
    have h3 := nz i hi
    have h4 := nz j hj
    have e0 : g ^ i % p - 1 = g ^ j % p - 1 := e
    omega
   have key : ∀ a b, a < b → b < p - 1 → g ^ a % p = g ^ b % p → False := fun a b hab hb e => by
    have h3 : g ^ (p - 1 - a + a) % p = g ^ (p - 1 - a + b) % p := by rw [Nat.pow_add, Nat.pow_add, Nat.mul_mod, e, ← Nat.mul_mod]
    have e3 : p - 1 - a + a = p - 1 := by omega
    have e4 : p - 1 - a + b = (p - 1) + (b - a) := by omega
    rw [e3, h1, e4, pow_one_add h1] at h3
    exact order (b - a) (by omega) (by omega) h3.symm
   rcases Nat.lt_trichotomy i j with h | h | h
   ·exact (key i j h hj e').elim
   ·exact h
   ·exact (key j i h hi e'.symm).elim) (x % p - 1) (by omega)
 have he' : g ^ i % p = x % p := by
  have h3 := nz i hi
  have e0 : g ^ i % p - 1 = x % p - 1 := he
  omega
 rw [Nat.pow_mod, ← he', ← Nat.pow_mod, ← Nat.pow_mul, Nat.mul_comm]
 exact pow_one_mul hp h1 i

theorem powM_is {b e c p f : Nat} (h : e < 2 ^ f) (hc : powM p f b e = c) : b ^ e % p = c := by rw [← powM_eq p f b e h, hc]

theorem ferm2 : Ferm 2 := ⟨by decide, fun x h => by rw [Nat.pow_one]; omega⟩

theorem ferm3 : Ferm 3 :=
 lucas (g := 2) (f := 2) [2] (of_decide_eq_true (by kernel_rfl)) (of_decide_eq_true (by kernel_rfl)) (by
   intro q hq
   simp only [List.mem_cons, List.not_mem_nil, or_false] at hq
   rcases hq with rfl
   ·exact ferm2
   ) (by kernel_rfl) (by kernel_rfl) (by kernel_rfl)
theorem ferm5 : Ferm 5 :=
 lucas (g := 2) (f := 3) [2, 2] (of_decide_eq_true (by kernel_rfl)) (of_decide_eq_true (by kernel_rfl)) (by
   intro q hq
   simp only [List.mem_cons, List.not_mem_nil, or_false] at hq
   rcases hq with rfl | rfl
   ·exact ferm2
   ·exact ferm2
   ) (by kernel_rfl) (by kernel_rfl) (by kernel_rfl)
theorem ferm11 : Ferm 11 :=
 lucas (g := 2) (f := 4) [2, 5] (of_decide_eq_true (by kernel_rfl)) (of_decide_eq_true (by kernel_rfl)) (by
   intro q hq
   simp only [List.mem_cons, List.not_mem_nil, or_false] at hq
   rcases hq with rfl | rfl
   ·exact ferm2
   ·exact ferm5
   ) (by kernel_rfl) (by kernel_rfl) (by kernel_rfl)
theorem ferm353 : Ferm 353 :=
 lucas (g := 3) (f := 9) [2, 2, 2, 2, 2, 11] (of_decide_eq_true (by kernel_rfl)) (of_decide_eq_true (by kernel_rfl)) (by
   intro q hq
   simp only [List.mem_cons, List.not_mem_nil, or_false] at hq
   rcases hq with rfl | rfl | rfl | rfl | rfl | rfl
   ·exact ferm2
   ·exact ferm2
   ·exact ferm2
   ·exact ferm2
   ·exact ferm2
   ·exact ferm11
   ) (by kernel_rfl) (by kernel_rfl) (by kernel_rfl)
theorem ferm13 : Ferm 13 :=
 lucas (g := 2) (f := 4) [2, 2, 3] (of_decide_eq_true (by kernel_rfl)) (of_decide_eq_true (by kernel_rfl)) (by
   intro q hq
   simp only [List.mem_cons, List.not_mem_nil, or_false] at hq
   rcases hq with rfl | rfl | rfl
   ·exact ferm2
   ·exact ferm2
   ·exact ferm3
   ) (by kernel_rfl) (by kernel_rfl) (by kernel_rfl)
theorem ferm97 : Ferm 97 :=
 lucas (g := 5) (f := 7) [2, 2, 2, 2, 2, 3] (of_decide_eq_true (by kernel_rfl)) (of_decide_eq_true (by kernel_rfl)) (by
   intro q hq
   simp only [List.mem_cons, List.not_mem_nil, or_false] at hq
   rcases hq with rfl | rfl | rfl | rfl | rfl | rfl
   ·exact ferm2
   ·exact ferm2
   ·exact ferm2
   ·exact ferm2
   ·exact ferm2
   ·exact ferm3
   ) (by kernel_rfl) (by kernel_rfl) (by kernel_rfl)
theorem ferm19 : Ferm 19 :=
 lucas (g := 2) (f := 5) [2, 3, 3] (of_decide_eq_true (by kernel_rfl)) (of_decide_eq_true (by kernel_rfl)) (by
   intro q hq
   simp only [List.mem_cons, List.not_mem_nil, or_false] at hq
   rcases hq with rfl | rfl | rfl
   ·exact ferm2
   ·exact ferm3
   ·exact ferm3
   ) (by kernel_rfl) (by kernel_rfl) (by kernel_rfl)
theorem ferm419 : Ferm 419 :=
 lucas (g := 2) (f := 9) [2, 11, 19] (of_decide_eq_true (by kernel_rfl)) (of_decide_eq_true (by kernel_rfl)) (by
   intro q hq
   simp only [List.mem_cons, List.not_mem_nil, or_false] at hq
   rcases hq with rfl | rfl | rfl
   ·exact ferm2
   ·exact ferm11
   ·exact ferm19
   ) (by kernel_rfl) (by kernel_rfl) (by kernel_rfl)
theorem ferm7 : Ferm 7 :=
 lucas (g := 3) (f := 3) [2, 3] (of_decide_eq_true (by kernel_rfl)) (of_decide_eq_true (by kernel_rfl)) (by
   intro q hq
   simp only [List.mem_cons, List.not_mem_nil, or_false] at hq
   rcases hq with rfl | rfl
   ·exact ferm2
   ·exact ferm3
   ) (by kernel_rfl) (by kernel_rfl) (by kernel_rfl)
theorem ferm569003 : Ferm 569003 :=
 lucas (g := 2) (f := 20) [2, 7, 97, 419] (of_decide_eq_true (by kernel_rfl)) (of_decide_eq_true (by kernel_rfl)) (by
   intro q hq
   simp only [List.mem_cons, List.not_mem_nil, or_false] at hq
   rcases hq with rfl | rfl | rfl | rfl
   ·exact ferm2
   ·exact ferm7
   ·exact ferm97
   ·exact ferm419
   ) (by kernel_rfl) (by kernel_rfl) (by kernel_rfl)
theorem ferm29 : Ferm 29 :=
 lucas (g := 2) (f := 5) [2, 2, 7] (of_decide_eq_true (by kernel_rfl)) (of_decide_eq_true (by kernel_rfl)) (by
   intro q hq
   simp only [List.mem_cons, List.not_mem_nil, or_false] at hq
   rcases hq with rfl | rfl | rfl
   ·exact ferm2
   ·exact ferm2
   ·exact ferm7
   ) (by kernel_rfl) (by kernel_rfl) (by kernel_rfl)
theorem ferm2437 : Ferm 2437 :=
 lucas (g := 2) (f := 12) [2, 2, 3, 7, 29] (of_decide_eq_true (by kernel_rfl)) (of_decide_eq_true (by kernel_rfl)) (by
   intro q hq
   simp only [List.mem_cons, List.not_mem_nil, or_false] at hq
   rcases hq with rfl | rfl | rfl | rfl | rfl
   ·exact ferm2
   ·exact ferm2
   ·exact ferm3
   ·exact ferm7
   ·exact ferm29
   ) (by kernel_rfl) (by kernel_rfl) (by kernel_rfl)
theorem ferm2773320623 : Ferm 2773320623 :=
 lucas (g := 5) (f := 32) [2, 2437, 569003] (of_decide_eq_true (by kernel_rfl)) (of_decide_eq_true (by kernel_rfl)) (by
   intro q hq
   simp only [List.mem_cons, List.not_mem_nil, or_false] at hq
   rcases hq with rfl | rfl | rfl
   ·exact ferm2
   ·exact ferm2437
   ·exact ferm569003
   ) (by kernel_rfl) (by kernel_rfl) (by kernel_rfl)
theorem ferm72106336199 : Ferm 72106336199 :=
 lucas (g := 7) (f := 37) [2, 13, 2773320623] (of_decide_eq_true (by kernel_rfl)) (of_decide_eq_true (by kernel_rfl)) (by
   intro q hq
   simp only [List.mem_cons, List.not_mem_nil, or_false] at hq
   rcases hq with rfl | rfl | rfl
   ·exact ferm2
   ·exact ferm13
   ·exact ferm2773320623
   ) (by kernel_rfl) (by kernel_rfl) (by kernel_rfl)
theorem ferm23 : Ferm 23 :=
 lucas (g := 5) (f := 5) [2, 11] (of_decide_eq_true (by kernel_rfl)) (of_decide_eq_true (by kernel_rfl)) (by
   intro q hq
   simp only [List.mem_cons, List.not_mem_nil, or_false] at hq
   rcases hq with rfl | rfl
   ·exact ferm2
   ·exact ferm11
   ) (by kernel_rfl) (by kernel_rfl) (by kernel_rfl)
theorem ferm47 : Ferm 47 :=
 lucas (g := 5) (f := 6) [2, 23] (of_decide_eq_true (by kernel_rfl)) (of_decide_eq_true (by kernel_rfl)) (by
   intro q hq
   simp only [List.mem_cons, List.not_mem_nil, or_false] at hq
   rcases hq with rfl | rfl
   ·exact ferm2
   ·exact ferm23
   ) (by kernel_rfl) (by kernel_rfl) (by kernel_rfl)
theorem ferm17 : Ferm 17 :=
 lucas (g := 3) (f := 5) [2, 2, 2, 2] (of_decide_eq_true (by kernel_rfl)) (of_decide_eq_true (by kernel_rfl)) (by
   intro q hq
   simp only [List.mem_cons, List.not_mem_nil, or_false] at hq
   rcases hq with rfl | rfl | rfl | rfl
   ·exact ferm2
   ·exact ferm2
   ·exact ferm2
   ·exact ferm2
   ) (by kernel_rfl) (by kernel_rfl) (by kernel_rfl)
theorem ferm103 : Ferm 103 :=
 lucas (g := 5) (f := 7) [2, 3, 17] (of_decide_eq_true (by kernel_rfl)) (of_decide_eq_true (by kernel_rfl)) (by
   intro q hq
   simp only [List.mem_cons, List.not_mem_nil, or_false] at hq
   rcases hq with rfl | rfl | rfl
   ·exact ferm2
   ·exact ferm3
   ·exact ferm17
   ) (by kernel_rfl) (by kernel_rfl) (by kernel_rfl)
theorem ferm991 : Ferm 991 :=
 lucas (g := 6) (f := 10) [2, 3, 3, 5, 11] (of_decide_eq_true (by kernel_rfl)) (of_decide_eq_true (by kernel_rfl)) (by
   intro q hq
   simp only [List.mem_cons, List.not_mem_nil, or_false] at hq
   rcases hq with rfl | rfl | rfl | rfl | rfl
   ·exact ferm2
   ·exact ferm3
   ·exact ferm3
   ·exact ferm5
   ·exact ferm11
   ) (by kernel_rfl) (by kernel_rfl) (by kernel_rfl)
theorem ferm8574133 : Ferm 8574133 :=
 lucas (g := 2) (f := 24) [2, 2, 3, 7, 103, 991] (of_decide_eq_true (by kernel_rfl)) (of_decide_eq_true (by kernel_rfl)) (by
   intro q hq
   simp only [List.mem_cons, List.not_mem_nil, or_false] at hq
   rcases hq with rfl | rfl | rfl | rfl | rfl | rfl
   ·exact ferm2
   ·exact ferm2
   ·exact ferm3
   ·exact ferm7
   ·exact ferm103
   ·exact ferm991
   ) (by kernel_rfl) (by kernel_rfl) (by kernel_rfl)
theorem ferm127 : Ferm 127 :=
 lucas (g := 3) (f := 7) [2, 3, 3, 7] (of_decide_eq_true (by kernel_rfl)) (of_decide_eq_true (by kernel_rfl)) (by
   intro q hq
   simp only [List.mem_cons, List.not_mem_nil, or_false] at hq
   rcases hq with rfl | rfl | rfl | rfl
   ·exact ferm2
   ·exact ferm3
   ·exact ferm3
   ·exact ferm7
   ) (by kernel_rfl) (by kernel_rfl) (by kernel_rfl)
theorem ferm1919519569386763 : Ferm 1919519569386763 :=
 lucas (g := 2) (f := 51) [2, 3, 7, 19, 47, 47, 127, 8574133] (of_decide_eq_true (by kernel_rfl)) (of_decide_eq_true (by kernel_rfl)) (by
   intro q hq
   simp only [List.mem_cons, List.not_mem_nil, or_false] at hq
   rcases hq with rfl | rfl | rfl | rfl | rfl | rfl | rfl | rfl
   ·exact ferm2
   ·exact ferm3
   ·exact ferm7
   ·exact ferm19
   ·exact ferm47
   ·exact ferm47
   ·exact ferm127
   ·exact ferm8574133
   ) (by kernel_rfl) (by kernel_rfl) (by kernel_rfl)
theorem ferm41 : Ferm 41 :=
 lucas (g := 6) (f := 6) [2, 2, 2, 5] (of_decide_eq_true (by kernel_rfl)) (of_decide_eq_true (by kernel_rfl)) (by
   intro q hq
   simp only [List.mem_cons, List.not_mem_nil, or_false] at hq
   rcases hq with rfl | rfl | rfl | rfl
   ·exact ferm2
   ·exact ferm2
   ·exact ferm2
   ·exact ferm5
   ) (by kernel_rfl) (by kernel_rfl) (by kernel_rfl)
theorem ferm83 : Ferm 83 :=
 lucas (g := 2) (f := 7) [2, 41] (of_decide_eq_true (by kernel_rfl)) (of_decide_eq_true (by kernel_rfl)) (by
   intro q hq
   simp only [List.mem_cons, List.not_mem_nil, or_false] at hq
   rcases hq with rfl | rfl
   ·exact ferm2
   ·exact ferm41
   ) (by kernel_rfl) (by kernel_rfl) (by kernel_rfl)
theorem ferm9463 : Ferm 9463 :=
 lucas (g := 3) (f := 14) [2, 3, 19, 83] (of_decide_eq_true (by kernel_rfl)) (of_decide_eq_true (by kernel_rfl)) (by
   intro q hq
   simp only [List.mem_cons, List.not_mem_nil, or_false] at hq
   rcases hq with rfl | rfl | rfl | rfl
   ·exact ferm2
   ·exact ferm3
   ·exact ferm19
   ·exact ferm83
   ) (by kernel_rfl) (by kernel_rfl) (by kernel_rfl)
theorem ferm37853 : Ferm 37853 :=
 lucas (g := 2) (f := 16) [2, 2, 9463] (of_decide_eq_true (by kernel_rfl)) (of_decide_eq_true (by kernel_rfl)) (by
   intro q hq
   simp only [List.mem_cons, List.not_mem_nil, or_false] at hq
   rcases hq with rfl | rfl | rfl
   ·exact ferm2
   ·exact ferm2
   ·exact ferm9463
   ) (by kernel_rfl) (by kernel_rfl) (by kernel_rfl)
theorem ferm75707 : Ferm 75707 :=
 lucas (g := 2) (f := 17) [2, 37853] (of_decide_eq_true (by kernel_rfl)) (of_decide_eq_true (by kernel_rfl)) (by
   intro q hq
   simp only [List.mem_cons, List.not_mem_nil, or_false] at hq
   rcases hq with rfl | rfl
   ·exact ferm2
   ·exact ferm37853
   ) (by kernel_rfl) (by kernel_rfl) (by kernel_rfl)
theorem ferm75445702479781427272750846543864801 : Ferm 75445702479781427272750846543864801 :=
 lucas (g := 7) (f := 116) [2, 2, 2, 2, 2, 3, 3, 5, 5, 75707, 72106336199, 1919519569386763] (of_decide_eq_true (by kernel_rfl)) (of_decide_eq_true (by kernel_rfl)) (by
   intro q hq
   simp only [List.mem_cons, List.not_mem_nil, or_false] at hq
   rcases hq with rfl | rfl | rfl | rfl | rfl | rfl | rfl | rfl | rfl | rfl | rfl | rfl
   ·exact ferm2
   ·exact ferm2
   ·exact ferm2
   ·exact ferm2
   ·exact ferm2
   ·exact ferm3
   ·exact ferm3
   ·exact ferm5
   ·exact ferm5
   ·exact ferm75707
   ·exact ferm72106336199
   ·exact ferm1919519569386763
   ) (by kernel_rfl) (by kernel_rfl) (by kernel_rfl)
theorem ferm131 : Ferm 131 :=
 lucas (g := 2) (f := 8) [2, 5, 13] (of_decide_eq_true (by kernel_rfl)) (of_decide_eq_true (by kernel_rfl)) (by
   intro q hq
   simp only [List.mem_cons, List.not_mem_nil, or_false] at hq
   rcases hq with rfl | rfl | rfl
   ·exact ferm2
   ·exact ferm5
   ·exact ferm13
   ) (by kernel_rfl) (by kernel_rfl) (by kernel_rfl)
theorem ferm132049 : Ferm 132049 :=
 lucas (g := 26) (f := 18) [2, 2, 2, 2, 3, 3, 7, 131] (of_decide_eq_true (by kernel_rfl)) (of_decide_eq_true (by kernel_rfl)) (by
   intro q hq
   simp only [List.mem_cons, List.not_mem_nil, or_false] at hq
   rcases hq with rfl | rfl | rfl | rfl | rfl | rfl | rfl | rfl
   ·exact ferm2
   ·exact ferm2
   ·exact ferm2
   ·exact ferm2
   ·exact ferm3
   ·exact ferm3
   ·exact ferm7
   ·exact ferm131
   ) (by kernel_rfl) (by kernel_rfl) (by kernel_rfl)
theorem ferm53 : Ferm 53 :=
 lucas (g := 2) (f := 6) [2, 2, 13] (of_decide_eq_true (by kernel_rfl)) (of_decide_eq_true (by kernel_rfl)) (by
   intro q hq
   simp only [List.mem_cons, List.not_mem_nil, or_false] at hq
   rcases hq with rfl | rfl | rfl
   ·exact ferm2
   ·exact ferm2
   ·exact ferm13
   ) (by kernel_rfl) (by kernel_rfl) (by kernel_rfl)
theorem ferm107 : Ferm 107 :=
 lucas (g := 2) (f := 7) [2, 53] (of_decide_eq_true (by kernel_rfl)) (of_decide_eq_true (by kernel_rfl)) (by
   intro q hq
   simp only [List.mem_cons, List.not_mem_nil, or_false] at hq
   rcases hq with rfl | rfl
   ·exact ferm2
   ·exact ferm53
   ) (by kernel_rfl) (by kernel_rfl) (by kernel_rfl)
theorem ferm1723 : Ferm 1723 :=
 lucas (g := 3) (f := 11) [2, 3, 7, 41] (of_decide_eq_true (by kernel_rfl)) (of_decide_eq_true (by kernel_rfl)) (by
   intro q hq
   simp only [List.mem_cons, List.not_mem_nil, or_false] at hq
   rcases hq with rfl | rfl | rfl | rfl
   ·exact ferm2
   ·exact ferm3
   ·exact ferm7
   ·exact ferm41
   ) (by kernel_rfl) (by kernel_rfl) (by kernel_rfl)
theorem ferm430751 : Ferm 430751 :=
 lucas (g := 17) (f := 19) [2, 5, 5, 5, 1723] (of_decide_eq_true (by kernel_rfl)) (of_decide_eq_true (by kernel_rfl)) (by
   intro q hq
   simp only [List.mem_cons, List.not_mem_nil, or_false] at hq
   rcases hq with rfl | rfl | rfl | rfl | rfl
   ·exact ferm2
   ·exact ferm5
   ·exact ferm5
   ·exact ferm5
   ·exact ferm1723
   ) (by kernel_rfl) (by kernel_rfl) (by kernel_rfl)
theorem ferm43 : Ferm 43 :=
 lucas (g := 3) (f := 6) [2, 3, 7] (of_decide_eq_true (by kernel_rfl)) (of_decide_eq_true (by kernel_rfl)) (by
   intro q hq
   simp only [List.mem_cons, List.not_mem_nil, or_false] at hq
   rcases hq with rfl | rfl | rfl
   ·exact ferm2
   ·exact ferm3
   ·exact ferm7
   ) (by kernel_rfl) (by kernel_rfl) (by kernel_rfl)
theorem ferm173 : Ferm 173 :=
 lucas (g := 2) (f := 8) [2, 2, 43] (of_decide_eq_true (by kernel_rfl)) (of_decide_eq_true (by kernel_rfl)) (by
   intro q hq
   simp only [List.mem_cons, List.not_mem_nil, or_false] at hq
   rcases hq with rfl | rfl | rfl
   ·exact ferm2
   ·exact ferm2
   ·exact ferm43
   ) (by kernel_rfl) (by kernel_rfl) (by kernel_rfl)
theorem ferm4153 : Ferm 4153 :=
 lucas (g := 5) (f := 13) [2, 2, 2, 3, 173] (of_decide_eq_true (by kernel_rfl)) (of_decide_eq_true (by kernel_rfl)) (by
   intro q hq
   simp only [List.mem_cons, List.not_mem_nil, or_false] at hq
   rcases hq with rfl | rfl | rfl | rfl | rfl
   ·exact ferm2
   ·exact ferm2
   ·exact ferm2
   ·exact ferm3
   ·exact ferm173
   ) (by kernel_rfl) (by kernel_rfl) (by kernel_rfl)
theorem ferm31 : Ferm 31 :=
 lucas (g := 3) (f := 5) [2, 3, 5] (of_decide_eq_true (by kernel_rfl)) (of_decide_eq_true (by kernel_rfl)) (by
   intro q hq
   simp only [List.mem_cons, List.not_mem_nil, or_false] at hq
   rcases hq with rfl | rfl | rfl
   ·exact ferm2
   ·exact ferm3
   ·exact ferm5
   ) (by kernel_rfl) (by kernel_rfl) (by kernel_rfl)
theorem ferm37 : Ferm 37 :=
 lucas (g := 2) (f := 6) [2, 2, 3, 3] (of_decide_eq_true (by kernel_rfl)) (of_decide_eq_true (by kernel_rfl)) (by
   intro q hq
   simp only [List.mem_cons, List.not_mem_nil, or_false] at hq
   rcases hq with rfl | rfl | rfl | rfl
   ·exact ferm2
   ·exact ferm2
   ·exact ferm3
   ·exact ferm3
   ) (by kernel_rfl) (by kernel_rfl) (by kernel_rfl)
theorem ferm223 : Ferm 223 :=
 lucas (g := 3) (f := 8) [2, 3, 37] (of_decide_eq_true (by kernel_rfl)) (of_decide_eq_true (by kernel_rfl)) (by
   intro q hq
   simp only [List.mem_cons, List.not_mem_nil, or_false] at hq
   rcases hq with rfl | rfl | rfl
   ·exact ferm2
   ·exact ferm3
   ·exact ferm37
   ) (by kernel_rfl) (by kernel_rfl) (by kernel_rfl)
theorem ferm31757755568855353 : Ferm 31757755568855353 :=
 lucas (g := 10) (f := 55) [2, 2, 2, 3, 31, 107, 223, 4153, 430751] (of_decide_eq_true (by kernel_rfl)) (of_decide_eq_true (by kernel_rfl)) (by
   intro q hq
   simp only [List.mem_cons, List.not_mem_nil, or_false] at hq
   rcases hq with rfl | rfl | rfl | rfl | rfl | rfl | rfl | rfl | rfl
   ·exact ferm2
   ·exact ferm2
   ·exact ferm2
   ·exact ferm3
   ·exact ferm31
   ·exact ferm107
   ·exact ferm223
   ·exact ferm4153
   ·exact ferm430751
   ) (by kernel_rfl) (by kernel_rfl) (by kernel_rfl)
theorem ferm59 : Ferm 59 :=
 lucas (g := 2) (f := 6) [2, 29] (of_decide_eq_true (by kernel_rfl)) (of_decide_eq_true (by kernel_rfl)) (by
   intro q hq
   simp only [List.mem_cons, List.not_mem_nil, or_false] at hq
   rcases hq with rfl | rfl
   ·exact ferm2
   ·exact ferm29
   ) (by kernel_rfl) (by kernel_rfl) (by kernel_rfl)
theorem ferm487 : Ferm 487 :=
 lucas (g := 3) (f := 9) [2, 3, 3, 3, 3, 3] (of_decide_eq_true (by kernel_rfl)) (of_decide_eq_true (by kernel_rfl)) (by
   intro q hq
   simp only [List.mem_cons, List.not_mem_nil, or_false] at hq
   rcases hq with rfl | rfl | rfl | rfl | rfl | rfl
   ·exact ferm2
   ·exact ferm3
   ·exact ferm3
   ·exact ferm3
   ·exact ferm3
   ·exact ferm3
   ) (by kernel_rfl) (by kernel_rfl) (by kernel_rfl)
theorem ferm57467 : Ferm 57467 :=
 lucas (g := 2) (f := 16) [2, 59, 487] (of_decide_eq_true (by kernel_rfl)) (of_decide_eq_true (by kernel_rfl)) (by
   intro q hq
   simp only [List.mem_cons, List.not_mem_nil, or_false] at hq
   rcases hq with rfl | rfl | rfl
   ·exact ferm2
   ·exact ferm59
   ·exact ferm487
   ) (by kernel_rfl) (by kernel_rfl) (by kernel_rfl)
theorem ferm3727 : Ferm 3727 :=
 lucas (g := 3) (f := 12) [2, 3, 3, 3, 3, 23] (of_decide_eq_true (by kernel_rfl)) (of_decide_eq_true (by kernel_rfl)) (by
   intro q hq
   simp only [List.mem_cons, List.not_mem_nil, or_false] at hq
   rcases hq with rfl | rfl | rfl | rfl | rfl | rfl
   ·exact ferm2
   ·exact ferm3
   ·exact ferm3
   ·exact ferm3
   ·exact ferm3
   ·exact ferm23
   ) (by kernel_rfl) (by kernel_rfl) (by kernel_rfl)
theorem ferm1923133 : Ferm 1923133 :=
 lucas (g := 2) (f := 21) [2, 2, 3, 43, 3727] (of_decide_eq_true (by kernel_rfl)) (of_decide_eq_true (by kernel_rfl)) (by
   intro q hq
   simp only [List.mem_cons, List.not_mem_nil, or_false] at hq
   rcases hq with rfl | rfl | rfl | rfl | rfl
   ·exact ferm2
   ·exact ferm2
   ·exact ferm3
   ·exact ferm43
   ·exact ferm3727
   ) (by kernel_rfl) (by kernel_rfl) (by kernel_rfl)
theorem ferm74058212732561358302231226437062788676166966415465897661863160754340907 : Ferm 74058212732561358302231226437062788676166966415465897661863160754340907 :=
 lucas (g := 2) (f := 236) [2, 3, 353, 57467, 132049, 1923133, 31757755568855353, 75445702479781427272750846543864801] (of_decide_eq_true (by kernel_rfl)) (of_decide_eq_true (by kernel_rfl)) (by
   intro q hq
   simp only [List.mem_cons, List.not_mem_nil, or_false] at hq
   rcases hq with rfl | rfl | rfl | rfl | rfl | rfl | rfl | rfl
   ·exact ferm2
   ·exact ferm3
   ·exact ferm353
   ·exact ferm57467
   ·exact ferm132049
   ·exact ferm1923133
   ·exact ferm31757755568855353
   ·exact ferm75445702479781427272750846543864801
   ) (by kernel_rfl) (by kernel_rfl) (by kernel_rfl)
theorem ferm239 : Ferm 239 :=
 lucas (g := 7) (f := 8) [2, 7, 17] (of_decide_eq_true (by kernel_rfl)) (of_decide_eq_true (by kernel_rfl)) (by
   intro q hq
   simp only [List.mem_cons, List.not_mem_nil, or_false] at hq
   rcases hq with rfl | rfl | rfl
   ·exact ferm2
   ·exact ferm7
   ·exact ferm17
   ) (by kernel_rfl) (by kernel_rfl) (by kernel_rfl)
theorem ferm479 : Ferm 479 :=
 lucas (g := 13) (f := 9) [2, 239] (of_decide_eq_true (by kernel_rfl)) (of_decide_eq_true (by kernel_rfl)) (by
   intro q hq
   simp only [List.mem_cons, List.not_mem_nil, or_false] at hq
   rcases hq with rfl | rfl
   ·exact ferm2
   ·exact ferm239
   ) (by kernel_rfl) (by kernel_rfl) (by kernel_rfl)
theorem ferm32573 : Ferm 32573 :=
 lucas (g := 2) (f := 15) [2, 2, 17, 479] (of_decide_eq_true (by kernel_rfl)) (of_decide_eq_true (by kernel_rfl)) (by
   intro q hq
   simp only [List.mem_cons, List.not_mem_nil, or_false] at hq
   rcases hq with rfl | rfl | rfl | rfl
   ·exact ferm2
   ·exact ferm2
   ·exact ferm17
   ·exact ferm479
   ) (by kernel_rfl) (by kernel_rfl) (by kernel_rfl)
theorem ferm65147 : Ferm 65147 :=
 lucas (g := 2) (f := 16) [2, 32573] (of_decide_eq_true (by kernel_rfl)) (of_decide_eq_true (by kernel_rfl)) (by
   intro q hq
   simp only [List.mem_cons, List.not_mem_nil, or_false] at hq
   rcases hq with rfl | rfl
   ·exact ferm2
   ·exact ferm32573
   ) (by kernel_rfl) (by kernel_rfl) (by kernel_rfl)
theorem ferm57896044618658097711785492504343953926634992332820282019728792003956564819949 : Ferm 57896044618658097711785492504343953926634992332820282019728792003956564819949 :=
 lucas (g := 2) (f := 255) [2, 2, 3, 65147, 74058212732561358302231226437062788676166966415465897661863160754340907] (of_decide_eq_true (by kernel_rfl)) (of_decide_eq_true (by kernel_rfl)) (by
   intro q hq
   simp only [List.mem_cons, List.not_mem_nil, or_false] at hq
   rcases hq with rfl | rfl | rfl | rfl | rfl
   ·exact ferm2
   ·exact ferm2
   ·exact ferm3
   ·exact ferm65147
   ·exact ferm74058212732561358302231226437062788676166966415465897661863160754340907
   ) (by kernel_rfl) (by kernel_rfl) (by kernel_rfl)
theorem fermP : Ferm pN := ferm57896044618658097711785492504343953926634992332820282019728792003956564819949
end Go.Proofs.YthddoelflmoedaaGreat
namespace Go.Proofs.YthddoelflmoedaaGreat
open Go.RowKit
set_option maxRecDepth 100000

section ring
variable {n : Nat} [NeZero n]
def kk (n : Nat) [NeZero n] (a : Nat) : Fin n := Fin.ofNat n a
theorem kk_iff {a b : Nat} : kk n a = kk n b ↔ a % n = b % n := by
 unfold kk Fin.ofNat
 exact Fin.mk.injEq _ _ _ _ ▸ Iff.rfl
theorem kk_mod (a : Nat) : kk n (a % n) = kk n a := kk_iff.2 (Nat.mod_mod _ _)
theorem kk_of {a b : Nat} (h : a % n = b % n) : kk n a = kk n b := kk_iff.2 h
theorem kk_add (a b : Nat) : kk n (a + b) = kk n a + kk n b := by
 apply Fin.ext
 show (a + b) % n = (a % n + b % n) % n
 exact Nat.add_mod _ _ _
theorem kk_mul (a b : Nat) : kk n (a * b) = kk n a * kk n b := by
 apply Fin.ext
 show (a * b) % n = (a % n * (b % n)) % n
 exact Nat.mul_mod _ _ _
theorem kk_zero : kk n 0 = 0 := by
 apply Fin.ext
 show 0 % n = 0
 exact Nat.zero_mod _
theorem kk_one : kk n 1 = 1 := rfl
theorem kk_nat (a : Nat) : kk n n = 0 := by rw [← kk_zero]; exact kk_of (by rw [Nat.mod_self, Nat.zero_mod])
theorem kk_neg {a : Nat} (h : a ≤ n) : kk n (n - a) = - kk n a := by
 have h1 : kk n (n - a + a) = 0 := by rw [Nat.sub_add_cancel h]; exact kk_nat 0
 rw [kk_add] at h1
 grind
theorem kk_pow (a : Nat) : ∀ k, kk n (a ^ k) = kk n a ^ k
 | 0 => rfl
 | k + 1 => by
  rw [Nat.pow_succ, kk_mul, kk_pow a k]
  rfl
theorem kk_lt {a b : Nat} (ha : a < n) (hb : b < n) (h : kk n a = kk n b) : a = b := by
 have := kk_iff.1 h
 rwa [Nat.mod_eq_of_lt ha, Nat.mod_eq_of_lt hb] at this
theorem kk_is_zero {a : Nat} : kk n a = 0 ↔ a % n = 0 := by
 rw [← kk_zero, kk_iff, Nat.zero_mod]
theorem kk_all (x : Fin n) : x = kk n x.val := Fin.ext (Nat.mod_eq_of_lt x.isLt).symm
theorem fpow_add (x : Fin n) (a : Nat) : ∀ b : Nat, x ^ (a + b) = x ^ a * x ^ b
 | 0 => by show x ^ a = x ^ a * 1; grind
 | b + 1 => by
  show x ^ (a + b) * x = x ^ a * (x ^ b * x)
  rw [fpow_add x a b]
  grind
theorem fmul_pow (x y : Fin n) : ∀ k : Nat, (x * y) ^ k = x ^ k * y ^ k
 | 0 => by show (1 : Fin n) = 1 * 1; grind
 | k + 1 => by
  show (x * y) ^ k * (x * y) = (x ^ k * x) * (y ^ k * y)
  rw [fmul_pow x y k]
  grind
theorem fone_pow : ∀ k : Nat, (1 : Fin n) ^ k = 1
 | 0 => rfl
 | k + 1 => by
  show (1 : Fin n) ^ k * 1 = 1
  rw [fone_pow k]
  grind
theorem fpow_mul (x : Fin n) (a : Nat) : ∀ b : Nat, x ^ (a * b) = (x ^ a) ^ b
 | 0 => rfl
 | b + 1 => by
  rw [Nat.mul_succ, fpow_add, fpow_mul x a b]
  rfl
theorem fpow_succ (x : Fin n) (k : Nat) : x ^ (k + 1) = x ^ k * x := rfl

theorem root_ways {u v i : Fin n} {a : Nat} (hv : v * i = 1) (hF : v ^ (8 * a + 4) = 1) : u * v ^ 3 * (u * v ^ 7) ^ a = (u * i) ^ (a + 1) := by
 have h1 : i ^ (a + 1) = v ^ (7 * a + 3) := by
  have e : 8 * a + 4 = (a + 1) + (7 * a + 3) := by omega
  rw [e, fpow_add] at hF
  have h2 : v ^ (a + 1) * i ^ (a + 1) = 1 := by rw [← fmul_pow, hv, fone_pow]
  grind
 have h3 : (v ^ 7) ^ a * v ^ 3 = v ^ (7 * a + 3) := by rw [fpow_add, fpow_mul]
 rw [fmul_pow u i, h1, ← h3, fmul_pow, fpow_succ u a]
 grind
end ring

/-! ### p -/
instance : NeZero pN := ⟨by decide⟩
theorem K_euclid {x y : Fin pN} (h : x * y = 0) : x = 0 ∨ y = 0 := by
 rw [kk_all x, kk_all y, ← kk_mul, kk_is_zero] at h
 rcases fermP.euclid h with h | h
 ·left; rw [kk_all x]; exact kk_is_zero.2 h
 ·right; rw [kk_all y]; exact kk_is_zero.2 h
theorem K_fermat {x : Fin pN} (h : x ≠ 0) : x ^ (pN - 1) = 1 := by
 rw [kk_all x] at h ⊢
 rw [← kk_pow, ← kk_one, kk_iff, fermP.2 _ (fun h0 => h (kk_is_zero.2 h0))]
 decide
theorem pN_pred : pN - 1 = (pN - 2) + 1 := by decide
theorem K_inv {x : Fin pN} (h : x ≠ 0) : x * x ^ (pN - 2) = 1 := by
 have e := K_fermat h
 rw [pN_pred, fpow_succ] at e
 generalize x ^ (pN - 2) = y at e
 grind
theorem K_square {x y : Fin pN} (h : x * x = y * y) : x = y ∨ x = - y := by
 have : (x - y) * (x + y) = 0 := by grind
 rcases K_euclid this with h | h
 ·left; grind
 ·right; grind
theorem unit_sq : kk pN unitN * kk pN unitN = -1 := by
 have e : kk pN (unitN * unitN) = kk pN (pN - 1) := kk_of (by kernel_rfl)
 rw [kk_mul, kk_neg (by decide), kk_one] at e
 exact e
theorem half_unit : 2 ^ ((pN - 1) / 4) % pN = unitN := powM_is (f := 255) (of_decide_eq_true (by kernel_rfl)) (by kernel_rfl)

def rrootQ (u v : Nat) : Nat := u * (v ^ (pN - 2) % pN) % pN
def rrootS (u v : Nat) : Nat := if rrootQ u v ^ ((pN + 3) / 8) % pN * (rrootQ u v ^ ((pN + 3) / 8) % pN) % pN = rrootQ u v then rrootQ u v ^ ((pN + 3) / 8) % pN else rrootQ u v ^ ((pN + 3) / 8) % pN * (2 ^ ((pN - 1) / 4) % pN) % pN
def rrootN (u v : Nat) : Nat × Bool :=
 if v = 0 then (0, false) else if rrootS u v * rrootS u v % pN = rrootQ u v then (evenN (rrootS u v), true) else (0, false)

theorem pos_pN : 0 < pN := by decide
theorem rrootQ_lt (u v : Nat) : rrootQ u v < pN := Nat.mod_lt _ pos_pN
theorem rootR_lt (u v : Nat) : rootR u v < pN := Nat.mod_lt _ pos_pN
theorem e_root : (pN + 3) / 8 = (pN - 5) / 8 + 1 := by decide
theorem e_fermat : 8 * ((pN - 5) / 8) + 4 = pN - 1 := by decide

theorem root_eq {u v : Nat} (hv : v % pN ≠ 0) : rrootQ u v ^ ((pN + 3) / 8) % pN = rootR u v := by
 apply kk_lt (n := pN) (Nat.mod_lt _ pos_pN) (rootR_lt u v)
 have hv' : kk pN v ≠ 0 := fun h => hv (kk_is_zero.1 h)
 have hF := K_fermat hv'
 rw [← e_fermat] at hF
 rw [rootR, kk_mod, kk_mod, kk_pow, kk_mul, kk_mul, kk_pow, kk_pow, kk_mul, kk_pow, rrootQ, kk_mod, kk_mul, kk_mod, kk_pow, e_root]
 exact (root_ways (K_inv hv') hF).symm
theorem root_test {u v r : Nat} (hu : u < pN) (hv : v % pN ≠ 0) : (r * r % pN = rrootQ u v ↔ v * r * r % pN = u % pN) ∧ (r * unitN % pN * (r * unitN % pN) % pN = rrootQ u v ↔ v * r * r % pN = (pN - u % pN) % pN) := by
 have hv' : kk pN v ≠ 0 := fun h => hv (kk_is_zero.1 h)
 have hI := K_inv hv'
 have hJ := unit_sq
 have eq : kk pN (rrootQ u v) = kk pN u * kk pN v ^ (pN - 2) := by rw [rrootQ, kk_mod, kk_mul, kk_mod, kk_pow]
 obtain ⟨I, hIe⟩ : ∃ I, kk pN v ^ (pN - 2) = I := ⟨_, rfl⟩
 rw [hIe] at hI eq
 have em : ∀ x, kk pN x = kk pN (rrootQ u v) ↔ x % pN = rrootQ u v := fun x => by rw [kk_iff, Nat.mod_eq_of_lt (rrootQ_lt u v)]
 constructor
 ·rw [← em, ← kk_iff, eq, kk_mul, kk_mul, kk_mul]
  generalize kk pN v = V at *
  generalize kk pN u = U at *
  generalize kk pN r = R at *
  constructor <;> intro h <;> grind
 ·rw [← em, ← kk_iff, eq, kk_mul, kk_mod, kk_mul, kk_mul, kk_mul, kk_neg (Nat.le_of_lt (Nat.mod_lt _ pos_pN)), kk_mod]
  generalize kk pN v = V at *
  generalize kk pN u = U at *
  generalize kk pN r = R at *
  generalize kk pN unitN = J at *
  constructor <;> intro h <;> grind
theorem rroot_root {u v : Nat} (hu : u < pN) (hv : v < pN) : rrootN u v = rootN u v := by
 unfold rrootN rootN
 rw [Nat.mod_eq_of_lt hv]
 by_cases h0 : v = 0
 ·rw [if_pos h0, if_pos h0]
 ·rw [if_neg h0, if_neg h0]
  have hv0 : v % pN ≠ 0 := by rw [Nat.mod_eq_of_lt hv]; exact h0
  have hT := root_test (r := rootR u v) hu hv0
  have hS : rrootS u v = if v * rootR u v * rootR u v % pN = u % pN then rootR u v else rootR u v * unitN % pN := by
   unfold rrootS
   rw [root_eq hv0, half_unit]
   by_cases h : v * rootR u v * rootR u v % pN = u % pN
   ·rw [if_pos h, if_pos (hT.1.2 h)]
   ·rw [if_neg h, if_neg (fun h' => h (hT.1.1 h'))]
  rw [hS]
  by_cases h : v * rootR u v * rootR u v % pN = u % pN
  ·rw [if_pos h, if_pos h, if_pos (hT.1.2 h)]
  ·rw [if_neg h, if_neg h]
   by_cases h2 : v * rootR u v * rootR u v % pN = (pN - u % pN) % pN
   ·rw [if_pos h2, if_pos (hT.2.2 h2)]
   ·rw [if_neg h2, if_neg (fun h' => h2 (hT.2.1 h'))]

theorem evenN_same {r s : Nat} (hr : r < pN) (hs : s < pN) (h : kk pN r = kk pN s ∨ kk pN r = - kk pN s) : evenN r = evenN s := by
 rcases h with h | h
 ·rw [kk_lt hr hs h]
 ·by_cases h0 : s = 0
  ·subst h0
   have : r = 0 := kk_lt hr pos_pN (by rw [h, kk_zero]; grind)
   rw [this]
  ·rw [← kk_neg (Nat.le_of_lt hs)] at h
   have e : r = pN - s := kk_lt hr (by omega) h
   have hodd : pN % 2 = 1 := by decide
   unfold evenN
   have e1 : (pN - r) % pN = s := by rw [e, Nat.sub_sub_self (Nat.le_of_lt hs)]; exact Nat.mod_eq_of_lt hs
   have e2 : (pN - s) % pN = r := by rw [← e]; exact Nat.mod_eq_of_lt hr
   rw [e1, e2]
   by_cases a : r % 2 = 1
   ·rw [if_pos a, if_neg (by omega)]
   ·rw [if_neg a, if_pos (by omega)]

theorem a4 : 8 * ((pN - 5) / 8) + 4 = pN - 1 := e_fermat
theorem one_ne : (1 : Fin pN) ≠ 0 := by
 intro h
 have : kk pN 1 = 0 := h
 rw [kk_is_zero] at this
 exact absurd this (by decide)
theorem two_ne : (2 : Fin pN) ≠ 0 := by
 intro h
 have : kk pN 2 = 0 := h
 rw [kk_is_zero] at this
 exact absurd this (by decide)
theorem rootN_of {u v x : Nat} (hv : v % pN ≠ 0) (h : v * x * x % pN = u % pN) : rootN u v = (evenN (x % pN), true) := by
 have hv' : kk pN v ≠ 0 := fun h => hv (kk_is_zero.1 h)
 have hF := K_fermat hv'
 rw [← a4] at hF
 have hI := K_inv hv'
 have hr : kk pN (rootR u v) = (kk pN u * kk pN v ^ (pN - 2)) ^ ((pN - 5) / 8 + 1) := by
  rw [rootR, kk_mod, kk_mul, kk_mul, kk_pow, kk_pow, kk_mul, kk_pow]
  exact root_ways hI hF
 have hU : kk pN v * kk pN x * kk pN x = kk pN u := by
  rw [← kk_mul, ← kk_mul]
  exact kk_of h
 have hUI : kk pN u * kk pN v ^ (pN - 2) = kk pN x * kk pN x := by
  generalize kk pN v ^ (pN - 2) = I at hI
  grind
 rw [hUI, fmul_pow, ← fpow_add] at hr
 have hX := fun h : kk pN x ≠ 0 => K_fermat h
 rw [← a4] at hX
 have hJ := unit_sq
 have lr := rootR_lt u v
 have lx : x % pN < pN := Nat.mod_lt _ pos_pN
 have kx : kk pN (x % pN) = kk pN x := kk_mod x
 have e1 : ∀ a : Nat, (a + 1) + (a + 1) = 2 * a + 2 := fun a => by omega
 have e2 : ∀ a : Nat, 8 * a + 4 = (4 * a + 2) + (4 * a + 2) := fun a => by omega
 have e3 : ∀ a : Nat, (2 * a + 2) + (2 * a + 2) = (4 * a + 2) + 2 := fun a => by omega
 rw [e1] at hr
 rw [e2] at hX
 have hrr : kk pN (rootR u v) * kk pN (rootR u v) = kk pN x ^ (4 * ((pN - 5) / 8) + 2) * (kk pN x * kk pN x) := by
  rw [hr, ← fpow_add, e3, fpow_add]
  have : kk pN x ^ 2 = kk pN x * kk pN x := by grind
  rw [this]
 have t1 : v * rootR u v * rootR u v % pN = u % pN ↔ kk pN v * (kk pN (rootR u v) * kk pN (rootR u v)) = kk pN u := by
  rw [← kk_iff, kk_mul, kk_mul]
  constructor <;> intro h <;> grind
 have t2 : v * rootR u v * rootR u v % pN = (pN - u % pN) % pN ↔ kk pN v * (kk pN (rootR u v) * kk pN (rootR u v)) = - kk pN u := by
  rw [← kk_iff, kk_neg (Nat.le_of_lt (Nat.mod_lt _ pos_pN)), kk_mod, kk_mul, kk_mul]
  constructor <;> intro h <;> grind
 unfold rootN
 rw [if_neg hv]
 generalize kk pN v = V at *
 generalize kk pN u = U at *
 by_cases hx0 : kk pN x = 0
 ·have hr0 : kk pN (rootR u v) = 0 := by
   rw [hr, hx0, show ∀ a : Nat, 2 * a + 2 = (2 * a + 1) + 1 from fun _ => rfl, fpow_succ]
   grind
  have c1 : v * rootR u v * rootR u v % pN = u % pN := t1.2 (by rw [hr0]; grind)
  rw [if_pos c1, evenN_same lr lx (.inl (by rw [hr0, kx, hx0]))]
 ·have hX1 := hX hx0
  rw [fpow_add] at hX1
  generalize kk pN x ^ (4 * ((pN - 5) / 8) + 2) = E at hX1 hrr
  have hE := K_square (x := E) (y := 1) (by rw [hX1]; grind)
  rcases hE with rfl | rfl
  ·have c1 : v * rootR u v * rootR u v % pN = u % pN := t1.2 (by rw [hrr]; grind)
   rw [if_pos c1, evenN_same lr lx (by rw [kx]; exact K_square (by rw [hrr]; grind))]
  ·have hU0 : U ≠ 0 := fun h0 => by
    have h1 : V * (kk pN x * kk pN x) = 0 := by grind
    rcases K_euclid h1 with h2 | h2
    ·exact hv' h2
    ·rcases K_euclid h2 with h3 | h3 <;> exact hx0 h3
   have c1 : ¬ v * rootR u v * rootR u v % pN = u % pN := fun h1 => by
    have h2 := t1.1 h1
    rw [hrr] at h2
    have h3 : 2 * U = 0 := by grind
    rcases K_euclid h3 with h4 | h4
    ·exact two_ne h4
    ·exact hU0 h4
   have c2 : v * rootR u v * rootR u v % pN = (pN - u % pN) % pN := t2.2 (by rw [hrr]; grind)
   rw [if_neg c1, if_pos c2, evenN_same (Nat.mod_lt _ pos_pN) lx (by
    rw [kx, kk_mod, kk_mul]
    apply K_square
    generalize kk pN (rootR u v) = R at *
    generalize kk pN unitN = J at *
    grind)]
theorem evenN_lt {r : Nat} (h : r < pN) : evenN r < pN := by
 unfold evenN
 split
 ·exact Nat.mod_lt _ pos_pN
 ·exact h
theorem rootN_lt (u v : Nat) : (rootN u v).1 < pN := by
 unfold rootN
 split
 ·exact pos_pN
 ·split
  ·exact evenN_lt (rootR_lt u v)
  ·split
   ·exact evenN_lt (Nat.mod_lt _ pos_pN)
   ·exact pos_pN
theorem rootR_congr {u v u' v' : Nat} (hu : u % pN = u' % pN) (hv : v % pN = v' % pN) : rootR u v = rootR u' v' := by
 apply kk_lt (rootR_lt _ _) (rootR_lt _ _)
 rw [rootR, rootR, kk_mod, kk_mod, kk_mul, kk_mul, kk_mul, kk_mul, kk_pow, kk_pow, kk_pow, kk_pow, kk_mul, kk_mul, kk_pow, kk_pow, kk_of hu, kk_of hv]
theorem rootN_congr {u v u' v' : Nat} (hu : u % pN = u' % pN) (hv : v % pN = v' % pN) : rootN u v = rootN u' v' := by
 have e : v * rootR u' v' * rootR u' v' % pN = v' * rootR u' v' * rootR u' v' % pN := by
  rw [← kk_iff, kk_mul, kk_mul, kk_mul, kk_mul, kk_of hv]
 unfold rootN
 rw [rootR_congr hu hv, e, hu, hv]
end Go.Proofs.YthddoelflmoedaaGreat
namespace Go.Proofs.YthddoelflmoedaaGreat
open Go.RowKit
set_option maxRecDepth 100000

def fk (l : List Nat) : Fin pN := kk pN (fval l)
theorem Add_K {l m : List Nat} (hl : Fe l) (hm : Fe m) : ∃ c, Fe c ∧ fk c = fk l + fk m ∧ ∀ w, Gives 74 #[elem l, elem m] w (elem c) := by
 obtain ⟨c, h1, h2, h3⟩ := Add_any hl hm
 exact ⟨c, h1, (kk_of h2).trans (kk_add _ _), h3⟩
theorem Mul_K {l m : List Nat} (hl : Fe l) (hm : Fe m) : ∃ c, Fe c ∧ fk c = fk l * fk m ∧ ∀ w, Gives 55 #[elem l, elem m] w (elem c) := by
 obtain ⟨c, h1, h2, h3⟩ := Mul_any hl hm
 exact ⟨c, h1, (kk_of h2).trans (kk_mul _ _), h3⟩
theorem Neg_K {l : List Nat} (hl : Fe l) : ∃ c, Fe c ∧ fk c = - fk l ∧ ∀ w, Gives 76 #[elem l] w (elem c) := by
 obtain ⟨c, h1, h2, h3⟩ := Neg_any hl
 refine ⟨c, h1, ?_, h3⟩
 have h4 : kk pN (fval c) = kk pN (pN - fval l % pN) := kk_of h2
 rw [kk_neg (Nat.le_of_lt (Nat.mod_lt _ pos_pN)), kk_mod] at h4
 exact h4
theorem Sub_K {l m : List Nat} (hl : Fe l) (hm : Fe m) : ∃ c, Fe c ∧ fk c = fk l - fk m ∧ ∀ w, Gives 72 #[elem l, elem m] w (elem c) := by
 obtain ⟨c, h1, h2, h3⟩ := Sub_any hl hm
 refine ⟨c, h1, ?_, h3⟩
 have h4 : kk pN (fval c) = kk pN (fval l + (pN - fval m % pN)) := kk_of h2
 rw [kk_add, kk_neg (Nat.le_of_lt (Nat.mod_lt _ pos_pN)), kk_mod] at h4
 unfold fk
 rw [h4]
 grind
theorem Invert_K {l : List Nat} (hl : Fe l) : ∃ c, Fe c ∧ fk c = fk l ^ (pN - 2) ∧ ∀ w, Gives 54 #[elem l] w (elem c) := by
 obtain ⟨c, h1, h2, h3⟩ := Invert_any hl
 exact ⟨c, h1, (kk_of h2).trans (kk_pow _ _), h3⟩
theorem Small_K {n : Nat} (hn : n < 4294967296) : Fe [n, 0, 0, 0, 0] ∧ fk [n, 0, 0, 0, 0] = kk pN n ∧ ∀ w, Gives 70 #[.int .u32 n] w (elem [n, 0, 0, 0, 0]) := by
 obtain ⟨h1, h2, h3⟩ := Small_any hn
 exact ⟨h1, by unfold fk; rw [h2], h3⟩
end Go.Proofs.YthddoelflmoedaaGreat
namespace Go.Proofs.YthddoelflmoedaaGreat
open Go.RowKit
set_option maxRecDepth 100000

def dN : Nat := 37095705934669439343138083508754565189542113879843219016388785533085940283555
def dK : Fin pN := kk pN dN
theorem dN_lt : dN < pN := by decide
theorem dN_euler : (pN - dN) ^ ((pN - 1) / 2) % pN = pN - 1 := powM_is (f := 255) (of_decide_eq_true (by kernel_rfl)) (by kernel_rfl)
theorem neg_d_pow : (- dK) ^ ((pN - 1) / 2) = -1 := by
 have e : kk pN ((pN - dN) ^ ((pN - 1) / 2)) = kk pN (pN - 1) := kk_of (by rw [dN_euler]; exact (Nat.mod_eq_of_lt (by decide)).symm)
 rw [kk_pow, kk_neg (Nat.le_of_lt dN_lt), kk_neg (by decide), kk_one] at e
 exact e
theorem dK_ne : - dK ≠ 0 := by
 intro h
 have h2 : kk pN (pN - dN) = 0 := by rw [kk_neg (Nat.le_of_lt dN_lt)]; exact h
 rw [kk_is_zero] at h2
 exact absurd h2 (of_decide_eq_true (by kernel_rfl))
theorem half2 : (pN - 1) / 2 + (pN - 1) / 2 = pN - 1 := by decide
theorem f_two {n : Nat} [NeZero n] : (2 : Fin n) = 1 + 1 := by grind
theorem no_square {a b : Fin pN} (hb : b ≠ 0) (h : a * a = - dK * (b * b)) : False := by
 have h1 : (a * a) ^ ((pN - 1) / 2) = (- dK * (b * b)) ^ ((pN - 1) / 2) := by rw [h]
 rw [fmul_pow, fmul_pow, fmul_pow, ← fpow_add, ← fpow_add, half2, neg_d_pow, K_fermat hb] at h1
 by_cases ha : a = 0
 ·subst ha
  have h2 : - dK * (b * b) = 0 := by rw [← h]; grind
  rcases K_euclid h2 with h3 | h3
  ·exact dK_ne h3
  ·rcases K_euclid h3 with h4 | h4 <;> exact hb h4
 ·rw [K_fermat ha] at h1
  have h2 : (2 : Fin pN) = 0 := by
   have : (1 : Fin pN) = -1 := by rw [h1]; grind
   have h5 : (1 : Fin pN) + 1 = 0 := by rw [this]; grind
   exact f_two.trans h5
  exact two_ne h2

structure Pt where
 x : Fin pN
 y : Fin pN
 on : y * y - x * x = 1 + dK * x * x * y * y
theorem Pt.same {P Q : Pt} (hx : P.x = Q.x) (hy : P.y = Q.y) : P = Q := by
 cases P; cases Q
 simp only at hx hy
 subst hx; subst hy
 rfl

theorem edw_key {x1 y1 x2 y2 d i e : Fin pN} (hi : i * i = -1) (h1 : y1 * y1 - x1 * x1 = 1 + d * x1 * x1 * y1 * y1) (h2 : y2 * y2 - x2 * x2 = 1 + d * x2 * x2 * y2 * y2) (he : e = d * x1 * x2 * y1 * y2) (hee : e * e = 1) :
  (i * x1 + e * y1) * (i * x1 + e * y1) = - d * ((i * x1 * y1 * (i * x2 + y2)) * (i * x1 * y1 * (i * x2 + y2))) := by
 subst he
 grind
theorem edw_key' {x1 y1 x2 y2 d i e : Fin pN} (hi : i * i = -1) (h1 : y1 * y1 - x1 * x1 = 1 + d * x1 * x1 * y1 * y1) (h2 : y2 * y2 - x2 * x2 = 1 + d * x2 * x2 * y2 * y2) (he : e = d * x1 * x2 * y1 * y2) (hee : e * e = 1) :
  (i * x1 - e * y1) * (i * x1 - e * y1) = - d * ((i * x1 * y1 * (i * x2 - y2)) * (i * x1 * y1 * (i * x2 - y2))) := by
 subst he
 grind
theorem K_mul_ne {x y : Fin pN} (hx : x ≠ 0) (hy : y ≠ 0) : x * y ≠ 0 := fun h => by
 rcases K_euclid h with h | h
 ·exact hx h
 ·exact hy h
theorem edw_complete (P Q : Pt) : (dK * P.x * Q.x * P.y * Q.y) * (dK * P.x * Q.x * P.y * Q.y) ≠ 1 := by
 intro hee
 have hi := unit_sq
 have k1 := edw_key hi P.on Q.on rfl hee
 have k2 := edw_key' hi P.on Q.on rfl hee
 obtain ⟨x1, y1, h1⟩ := P
 obtain ⟨x2, y2, h2⟩ := Q
 simp only at hee k1 k2
 have hi0 : kk pN unitN ≠ 0 := fun h => by rw [h] at hi; exact one_ne (by grind)
 have hx1 : x1 ≠ 0 := fun h => by rw [h] at hee; exact one_ne (by grind)
 have hy1 : y1 ≠ 0 := fun h => by rw [h] at hee; exact one_ne (by grind)
 have hy2 : y2 ≠ 0 := fun h => by rw [h] at hee; exact one_ne (by grind)
 generalize kk pN unitN = i at *
 have hb := K_mul_ne (K_mul_ne hi0 hx1) hy1
 by_cases ha : i * x2 + y2 = 0
 ·by_cases hc : i * x2 - y2 = 0
  ·have h3 : 2 * y2 = 0 := by grind
   rcases K_euclid h3 with h4 | h4
   ·exact two_ne h4
   ·exact hy2 h4
  ·exact no_square (K_mul_ne hb hc) k2
 ·exact no_square (K_mul_ne hb ha) k1
theorem den_add (P Q : Pt) : 1 + dK * P.x * Q.x * P.y * Q.y ≠ 0 := fun h => edw_complete P Q (by
 have : dK * P.x * Q.x * P.y * Q.y = -1 := by grind
 rw [this]; grind)
theorem den_sub (P Q : Pt) : 1 - dK * P.x * Q.x * P.y * Q.y ≠ 0 := fun h => edw_complete P Q (by
 have : dK * P.x * Q.x * P.y * Q.y = 1 := by grind
 rw [this]; grind)

theorem edw_on {n : Nat} [NeZero n] {x1 y1 x2 y2 d i j : Fin n} (h1 : y1 * y1 - x1 * x1 = 1 + d * x1 * x1 * y1 * y1) (h2 : y2 * y2 - x2 * x2 = 1 + d * x2 * x2 * y2 * y2)
  (hi : (1 + d * x1 * x2 * y1 * y2) * i = 1) (hj : (1 - d * x1 * x2 * y1 * y2) * j = 1) :
  ((y1 * y2 + x1 * x2) * j) * ((y1 * y2 + x1 * x2) * j) - ((x1 * y2 + y1 * x2) * i) * ((x1 * y2 + y1 * x2) * i) = 1 + d * ((x1 * y2 + y1 * x2) * i) * ((x1 * y2 + y1 * x2) * i) * ((y1 * y2 + x1 * x2) * j) * ((y1 * y2 + x1 * x2) * j) := by
 grind
def padd (P Q : Pt) : Pt := ⟨(P.x * Q.y + P.y * Q.x) * (1 + dK * P.x * Q.x * P.y * Q.y) ^ (pN - 2), (P.y * Q.y + P.x * Q.x) * (1 - dK * P.x * Q.x * P.y * Q.y) ^ (pN - 2),
 edw_on P.on Q.on (K_inv (den_add P Q)) (K_inv (den_sub P Q))⟩
theorem K_cancel {a b c : Fin pN} (hc : c ≠ 0) (h : a * c = b * c) : a = b := by
 have h1 : (a - b) * c = 0 := by grind
 rcases K_euclid h1 with h2 | h2
 ·grind
 ·exact absurd h2 hc
theorem padd_x (P Q : Pt) : (padd P Q).x * (1 + dK * P.x * Q.x * P.y * Q.y) = P.x * Q.y + P.y * Q.x := by
 show (P.x * Q.y + P.y * Q.x) * (1 + dK * P.x * Q.x * P.y * Q.y) ^ (pN - 2) * (1 + dK * P.x * Q.x * P.y * Q.y) = _
 have h := K_inv (den_add P Q)
 generalize (1 + dK * P.x * Q.x * P.y * Q.y) ^ (pN - 2) = i at *
 grind
theorem padd_y (P Q : Pt) : (padd P Q).y * (1 - dK * P.x * Q.x * P.y * Q.y) = P.y * Q.y + P.x * Q.x := by
 show (P.y * Q.y + P.x * Q.x) * (1 - dK * P.x * Q.x * P.y * Q.y) ^ (pN - 2) * (1 - dK * P.x * Q.x * P.y * Q.y) = _
 have h := K_inv (den_sub P Q)
 generalize (1 - dK * P.x * Q.x * P.y * Q.y) ^ (pN - 2) = i at *
 grind
theorem padd_comm (P Q : Pt) : padd P Q = padd Q P := by
 apply Pt.same
 ·refine K_cancel (den_add P Q) ?_
  have h1 := padd_x P Q
  have h2 := padd_x Q P
  grind
 ·refine K_cancel (den_sub P Q) ?_
  have h1 := padd_y P Q
  have h2 := padd_y Q P
  grind
def pzero : Pt := ⟨0, 1, by grind⟩
def pneg (P : Pt) : Pt := ⟨- P.x, P.y, by have := P.on; grind⟩
theorem padd_zero (P : Pt) : padd P pzero = P := by
 apply Pt.same
 ·have h := padd_x P pzero
  have e1 : pzero.x = 0 := rfl
  have e2 : pzero.y = 1 := rfl
  rw [e1, e2] at h
  grind
 ·have h := padd_y P pzero
  have e1 : pzero.x = 0 := rfl
  have e2 : pzero.y = 1 := rfl
  rw [e1, e2] at h
  grind
theorem padd_neg (P : Pt) : padd P (pneg P) = pzero := by
 have e1 : (pneg P).x = - P.x := rfl
 have e2 : (pneg P).y = P.y := rfl
 apply Pt.same
 ·refine K_cancel (den_add P (pneg P)) ?_
  have h := padd_x P (pneg P)
  have e3 : pzero.x = 0 := rfl
  rw [e1, e2] at *
  rw [e3]
  grind
 ·refine K_cancel (den_sub P (pneg P)) ?_
  have h := padd_y P (pneg P)
  have e3 : pzero.y = 1 := rfl
  have ho := P.on
  rw [e1, e2] at *
  rw [e3]
  grind
end Go.Proofs.YthddoelflmoedaaGreat
namespace Go.Proofs.YthddoelflmoedaaGreat
open Go.RowKit
set_option maxRecDepth 100000

set_option maxHeartbeats 8000000 in
theorem edw_assoc_x {n : Nat} [NeZero n] {x1 y1 x2 y2 x3 y3 d : Fin n}
  (h1 : y1 * y1 - x1 * x1 = 1 + d * x1 * x1 * y1 * y1) (h2 : y2 * y2 - x2 * x2 = 1 + d * x2 * x2 * y2 * y2) (h3 : y3 * y3 - x3 * x3 = 1 + d * x3 * x3 * y3 * y3) :
  ((x1 * y2 + y1 * x2) * y3 * (1 - d * x1 * x2 * y1 * y2) + (y1 * y2 + x1 * x2) * x3 * (1 + d * x1 * x2 * y1 * y2)) * ((1 - d * x2 * x3 * y2 * y3 * (d * x2 * x3 * y2 * y3)) + d * x1 * y1 * (x2 * y3 + y2 * x3) * (y2 * y3 + x2 * x3))
   = (x1 * (y2 * y3 + x2 * x3) * (1 + d * x2 * x3 * y2 * y3) + y1 * (x2 * y3 + y2 * x3) * (1 - d * x2 * x3 * y2 * y3)) * ((1 - d * x1 * x2 * y1 * y2 * (d * x1 * x2 * y1 * y2)) + d * x3 * y3 * (x1 * y2 + y1 * x2) * (y1 * y2 + x1 * x2)) := by
 grind
set_option maxHeartbeats 8000000 in
theorem edw_assoc_y {n : Nat} [NeZero n] {x1 y1 x2 y2 x3 y3 d : Fin n}
  (h1 : y1 * y1 - x1 * x1 = 1 + d * x1 * x1 * y1 * y1) (h2 : y2 * y2 - x2 * x2 = 1 + d * x2 * x2 * y2 * y2) (h3 : y3 * y3 - x3 * x3 = 1 + d * x3 * x3 * y3 * y3) :
  ((y1 * y2 + x1 * x2) * y3 * (1 + d * x1 * x2 * y1 * y2) + (x1 * y2 + y1 * x2) * x3 * (1 - d * x1 * x2 * y1 * y2)) * ((1 - d * x2 * x3 * y2 * y3 * (d * x2 * x3 * y2 * y3)) - d * x1 * y1 * (x2 * y3 + y2 * x3) * (y2 * y3 + x2 * x3))
   = (y1 * (y2 * y3 + x2 * x3) * (1 + d * x2 * x3 * y2 * y3) + x1 * (x2 * y3 + y2 * x3) * (1 - d * x2 * x3 * y2 * y3)) * ((1 - d * x1 * x2 * y1 * y2 * (d * x1 * x2 * y1 * y2)) - d * x3 * y3 * (x1 * y2 + y1 * x2) * (y1 * y2 + x1 * x2)) := by
 grind

theorem cross {u v n1 n2 m1 m2 : Fin pN} (h1 : u * m1 = n1) (h2 : v * m2 = n2) (h : n1 * m2 = n2 * m1) (hm1 : m1 ≠ 0) (hm2 : m2 ≠ 0) : u = v := by
 refine K_cancel (K_mul_ne hm1 hm2) ?_
 subst h1
 subst h2
 grind
theorem padd_assoc (P Q R : Pt) : padd (padd P Q) R = padd P (padd Q R) := by
 have ax := padd_x P Q
 have ay := padd_y P Q
 have bx := padd_x Q R
 have bY := padd_y Q R
 have d1 := den_add P Q
 have d2 := den_sub P Q
 have d3 := den_add Q R
 have d4 := den_sub Q R
 apply Pt.same
 ·have c1 := padd_x (padd P Q) R
  have c2 := padd_x P (padd Q R)
  have e1 := den_add (padd P Q) R
  have e2 := den_add P (padd Q R)
  have key := edw_assoc_x P.on Q.on R.on
  generalize (padd (padd P Q) R).x = u at *
  generalize (padd P (padd Q R)).x = v at *
  generalize (padd P Q).x = X at *
  generalize (padd P Q).y = Y at *
  generalize (padd Q R).x = Z at *
  generalize (padd Q R).y = W at *
  obtain ⟨x1, y1, h1⟩ := P
  obtain ⟨x2, y2, h2⟩ := Q
  obtain ⟨x3, y3, h3⟩ := R
  simp only at ax ay bx bY d1 d2 d3 d4 c1 c2 e1 e2 key ⊢
  generalize dK = d at *
  clear h1 h2 h3
  have m1 : (1 - d * x1 * x2 * y1 * y2 * (d * x1 * x2 * y1 * y2)) + d * x3 * y3 * (x1 * y2 + y1 * x2) * (y1 * y2 + x1 * x2) = (1 + d * X * x3 * Y * y3) * ((1 + d * x1 * x2 * y1 * y2) * (1 - d * x1 * x2 * y1 * y2)) := by
   rw [← ax, ← ay]
   grind
  have m2 : (1 - d * x2 * x3 * y2 * y3 * (d * x2 * x3 * y2 * y3)) + d * x1 * y1 * (x2 * y3 + y2 * x3) * (y2 * y3 + x2 * x3) = (1 + d * x1 * Z * y1 * W) * ((1 + d * x2 * x3 * y2 * y3) * (1 - d * x2 * x3 * y2 * y3)) := by
   rw [← bx, ← bY]
   grind
  refine cross ?_ ?_ key ?_ ?_
  ·rw [m1, ← ax, ← ay]
   clear key m1 m2 d1 d2 d3 d4 e1 e2 ax ay bx bY c2
   grind
  ·rw [m2, ← bx, ← bY]
   clear key m1 m2 d1 d2 d3 d4 e1 e2 ax ay bx bY c1
   grind
  ·rw [m1]
   exact K_mul_ne e1 (K_mul_ne d1 d2)
  ·rw [m2]
   exact K_mul_ne e2 (K_mul_ne d3 d4)
 ·have c1 := padd_y (padd P Q) R
  have c2 := padd_y P (padd Q R)
  have e1 := den_sub (padd P Q) R
  have e2 := den_sub P (padd Q R)
  have key := edw_assoc_y P.on Q.on R.on
  generalize (padd (padd P Q) R).y = u at *
  generalize (padd P (padd Q R)).y = v at *
  generalize (padd P Q).x = X at *
  generalize (padd P Q).y = Y at *
  generalize (padd Q R).x = Z at *
  generalize (padd Q R).y = W at *
  obtain ⟨x1, y1, h1⟩ := P
  obtain ⟨x2, y2, h2⟩ := Q
  obtain ⟨x3, y3, h3⟩ := R
  simp only at ax ay bx bY d1 d2 d3 d4 c1 c2 e1 e2 key ⊢
  generalize dK = d at *
  clear h1 h2 h3
  have m1 : (1 - d * x1 * x2 * y1 * y2 * (d * x1 * x2 * y1 * y2)) - d * x3 * y3 * (x1 * y2 + y1 * x2) * (y1 * y2 + x1 * x2) = (1 - d * X * x3 * Y * y3) * ((1 + d * x1 * x2 * y1 * y2) * (1 - d * x1 * x2 * y1 * y2)) := by
   rw [← ax, ← ay]
   grind
  have m2 : (1 - d * x2 * x3 * y2 * y3 * (d * x2 * x3 * y2 * y3)) - d * x1 * y1 * (x2 * y3 + y2 * x3) * (y2 * y3 + x2 * x3) = (1 - d * x1 * Z * y1 * W) * ((1 + d * x2 * x3 * y2 * y3) * (1 - d * x2 * x3 * y2 * y3)) := by
   rw [← bx, ← bY]
   grind
  refine cross ?_ ?_ key ?_ ?_
  ·rw [m1, ← ax, ← ay]
   clear key m1 m2 d1 d2 d3 d4 e1 e2 ax ay bx bY c2
   grind
  ·rw [m2, ← bx, ← bY]
   clear key m1 m2 d1 d2 d3 d4 e1 e2 ax ay bx bY c1
   grind
  ·rw [m1]
   exact K_mul_ne e1 (K_mul_ne d1 d2)
  ·rw [m2]
   exact K_mul_ne e2 (K_mul_ne d3 d4)

def smul : Nat → Pt → Pt
 | 0, _ => pzero
 | n + 1, P => padd (smul n P) P
theorem zero_padd (P : Pt) : padd pzero P = P := by rw [padd_comm, padd_zero]
theorem smul_add (m : Nat) (P : Pt) : ∀ n, smul (m + n) P = padd (smul m P) (smul n P)
 | 0 => (padd_zero _).symm
 | n + 1 => by
  show padd (smul (m + n) P) P = padd (smul m P) (padd (smul n P) P)
  rw [smul_add m P n, padd_assoc]
theorem smul_one (P : Pt) : smul 1 P = P := zero_padd P
theorem smul_two (m : Nat) (P : Pt) : smul (2 * m) P = padd (smul m P) (smul m P) := by
 rw [Nat.two_mul, smul_add]
theorem smul_zero : ∀ n, smul n pzero = pzero
 | 0 => rfl
 | n + 1 => by
  show padd (smul n pzero) pzero = pzero
  rw [smul_zero n, padd_zero]
theorem smul_mul (m : Nat) (P : Pt) : ∀ n, smul (m * n) P = smul n (smul m P)
 | 0 => rfl
 | n + 1 => by
  rw [Nat.mul_succ, smul_add, smul_mul m P n]
  rfl
theorem smul_succ (n : Nat) (P : Pt) : smul (n + 1) P = padd (smul n P) P := rfl
theorem padd_swap (A B P Q : Pt) : padd (padd A B) (padd P Q) = padd (padd A P) (padd B Q) := by
 rw [padd_assoc, padd_assoc, ← padd_assoc B P Q, padd_comm B P, padd_assoc P B Q]
theorem smul_padd (P Q : Pt) (n : Nat) : smul n (padd P Q) = padd (smul n P) (smul n Q) := by
 induction n with
 | zero =>
  show pzero = padd pzero pzero
  exact (padd_zero pzero).symm
 | succ n ih => rw [smul_succ, smul_succ, smul_succ, ih, padd_swap]
theorem smul_mod {q : Nat} {P : Pt} (h : smul q P = pzero) (n : Nat) : smul (n % q) P = smul n P := by
 have e := Nat.div_add_mod n q
 conv => rhs; rw [← e, smul_add, smul_mul, h, smul_zero, zero_padd]
theorem pneg_unique {P Q : Pt} (h : padd P Q = pzero) : Q = pneg P := by
 have h1 : padd (pneg P) (padd P Q) = pneg P := by rw [h, padd_zero]
 rw [← padd_assoc, padd_comm (pneg P) P, padd_neg, zero_padd] at h1
 exact h1
theorem pneg_smul (n : Nat) (P : Pt) : smul n (pneg P) = pneg (smul n P) := by
 apply pneg_unique
 rw [← smul_padd, padd_neg, smul_zero]
end Go.Proofs.YthddoelflmoedaaGreat
namespace Go.Proofs.YthddoelflmoedaaGreat
open Go.RowKit
set_option maxRecDepth 100000

section ring
variable {n : Nat} [NeZero n]
theorem xadd_x {x1 y1 x2 y2 z1 z2 d x3 : Fin n} (h : x3 * (1 + d * x1 * x2 * y1 * y2) = x1 * y2 + y1 * x2) {a b c f e g hh q : Fin n}
  (ha : a = (y1 * z1 - x1 * z1) * (y2 * z2 - x2 * z2)) (hb : b = (y1 * z1 + x1 * z1) * (y2 * z2 + x2 * z2)) (hc : c = x1 * y1 * z1 * (d + d) * (x2 * y2 * z2)) (hq : q = (z1 + z1) * z2) (he : e = b - a) (hf : f = q - c) (hg : g = q + c) (hh : hh = b + a) :
  e * f = x3 * (f * g) := by
 have h1 : e = 2 * z1 * z2 * (x1 * y2 + y1 * x2) := by rw [he, hb, ha]; clear h ha hb hc hq he hf hg hh; grobner
 have h2 : g = 2 * z1 * z2 * (1 + d * x1 * x2 * y1 * y2) := by rw [hg, hq, hc]; clear h ha hb hc hq he hf hg hh h1; grobner
 rw [h1, h2, ← h]
 clear h ha hb hc hq he hf hg hh h1 h2
 grobner
theorem xadd_y {x1 y1 x2 y2 z1 z2 d y3 : Fin n} (h : y3 * (1 - d * x1 * x2 * y1 * y2) = y1 * y2 + x1 * x2) {a b c f e g hh q : Fin n}
  (ha : a = (y1 * z1 - x1 * z1) * (y2 * z2 - x2 * z2)) (hb : b = (y1 * z1 + x1 * z1) * (y2 * z2 + x2 * z2)) (hc : c = x1 * y1 * z1 * (d + d) * (x2 * y2 * z2)) (hq : q = (z1 + z1) * z2) (he : e = b - a) (hf : f = q - c) (hg : g = q + c) (hh' : hh = b + a) :
  g * hh = y3 * (f * g) := by
 have h1 : hh = 2 * z1 * z2 * (y1 * y2 + x1 * x2) := by rw [hh', hb, ha]; clear h ha hb hc hq he hf hg hh'; grobner
 have h2 : f = 2 * z1 * z2 * (1 - d * x1 * x2 * y1 * y2) := by rw [hf, hq, hc]; clear h ha hb hc hq he hf hg hh' h1; grobner
 rw [h1, h2, ← h]
 clear h ha hb hc hq he hf hg hh' h1 h2
 grobner
theorem xadd_fg {x1 y1 x2 y2 z1 z2 d : Fin n} {c f g q : Fin n}
  (hc : c = x1 * y1 * z1 * (d + d) * (x2 * y2 * z2)) (hq : q = (z1 + z1) * z2) (hf : f = q - c) (hg : g = q + c) :
  f = 2 * z1 * z2 * (1 - d * x1 * x2 * y1 * y2) ∧ g = 2 * z1 * z2 * (1 + d * x1 * x2 * y1 * y2) := by
 constructor
 ·rw [hf, hq, hc]; clear hc hq hf hg; grobner
 ·rw [hg, hq, hc]; clear hc hq hf hg; grobner
theorem xdbl {x y z d x3 y3 : Fin n} (on : y * y - x * x = 1 + d * x * x * y * y) (h : x3 * (1 + d * x * x * y * y) = x * y + y * x) (h' : y3 * (1 - d * x * x * y * y) = y * y + x * x) {a b c f e g hh s : Fin n}
  (ha : a = x * z * (x * z)) (hb : b = y * z * (y * z)) (hc : c = z * z) (hh1 : hh = a + b) (hs : s = x * z + y * z) (he : e = hh - s * s) (hg : g = a - b) (hf : f = c + c + g) :
  e * f = x3 * (f * g) ∧ g * hh = y3 * (f * g) ∧ f = z * z * (1 - d * x * x * y * y) ∧ g = - (z * z * (1 + d * x * x * y * y)) := by
 have h1 : e = - (z * z * (x * y + y * x)) := by rw [he, hh1, hs, ha, hb]; clear on h h' ha hb hc hh1 hs he hg hf; grobner
 have h2 : hh = z * z * (y * y + x * x) := by rw [hh1, ha, hb]; clear on h h' ha hb hc hh1 hs he hg hf h1; grobner
 have h3 : g = - (z * z * (1 + d * x * x * y * y)) := by rw [hg, ha, hb, ← on]; clear on h h' ha hb hc hh1 hs he hg hf h1 h2; grobner
 have h4 : f = z * z * (1 - d * x * x * y * y) := by rw [hf, hc, h3]; clear on h h' ha hb hc hh1 hs he hg hf h1 h2 h3; grobner
 refine ⟨?_, ?_, h4, h3⟩
 ·rw [h1, h3, ← h]
  clear on h h' ha hb hc hh1 hs he hg hf h1 h2 h3 h4
  grobner
 ·rw [h2, h4, ← h']
  clear on h h' ha hb hc hh1 hs he hg hf h1 h2 h3 h4
  grobner
theorem radd {x1 y1 x2 y2 z1 z2 d x3 y3 : Fin n} (h : x3 * (1 + d * x1 * x2 * y1 * y2) = x1 * y2 + y1 * x2) (h' : y3 * (1 - d * x1 * x2 * y1 * y2) = y1 * y2 + x1 * x2) {a b c f e g xx yy cc : Fin n}
  (ha : a = x1 * z1 * (y2 * z2) + y1 * z1 * (x2 * z2)) (hxx : xx = x1 * z1 * (x2 * z2)) (hyy : yy = y1 * z1 * (y2 * z2)) (hb : b = yy + xx) (hc : c = z1 * z2) (hcc : cc = c * c) (he : e = d * (xx * yy)) (hf : f = cc + e) (hg : g = cc - e) :
  a * c * g = x3 * (f * g) ∧ b * c * f = y3 * (f * g) ∧ f = z1 * z2 * (z1 * z2) * (1 + d * x1 * x2 * y1 * y2) ∧ g = z1 * z2 * (z1 * z2) * (1 - d * x1 * x2 * y1 * y2) := by
 have h1 : a = z1 * z2 * (x1 * y2 + y1 * x2) := by rw [ha]; clear h h' ha hxx hyy hb hc hcc he hf hg; grobner
 have h2 : b = z1 * z2 * (y1 * y2 + x1 * x2) := by rw [hb, hyy, hxx]; clear h h' ha hxx hyy hb hc hcc he hf hg h1; grobner
 have h3 : f = z1 * z2 * (z1 * z2) * (1 + d * x1 * x2 * y1 * y2) := by rw [hf, hcc, hc, he, hxx, hyy]; clear h h' ha hxx hyy hb hc hcc he hf hg h1 h2; grobner
 have h4 : g = z1 * z2 * (z1 * z2) * (1 - d * x1 * x2 * y1 * y2) := by rw [hg, hcc, hc, he, hxx, hyy]; clear h h' ha hxx hyy hb hc hcc he hf hg h1 h2 h3; grobner
 refine ⟨?_, ?_, h3, h4⟩
 ·rw [h1, h3, ← h, hc]
  clear h h' ha hxx hyy hb hc hcc he hf hg h1 h2 h3 h4
  grobner
 ·rw [h2, h4, ← h', hc]
  clear h h' ha hxx hyy hb hc hcc he hf hg h1 h2 h3 h4
  grobner
theorem f_sub (x y : Fin n) : x - y = x + -y := by grobner
theorem f_mul_one (x : Fin n) : x * 1 = x := by grobner
theorem f_one_mul (x : Fin n) : 1 * x = x := by grobner
end ring

theorem z2_ne {z1 z2 : Fin pN} (h1 : z1 ≠ 0) (h2 : z2 ≠ 0) : 2 * z1 * z2 ≠ 0 := K_mul_ne (K_mul_ne two_ne h1) h2
theorem K_neg_ne {z : Fin pN} (h : z ≠ 0) : - z ≠ 0 := fun h' => h (by grind)
instance : DecidableEq Pt := fun P Q => decidable_of_iff (P.x = Q.x ∧ P.y = Q.y) ⟨fun h => Pt.same h.1 h.2, fun h => by rw [h]; exact ⟨rfl, rfl⟩⟩

def encN (P : Pt) : Nat := P.y.val + 57896044618658097711785492504343953926634992332820282019728792003956564819968 * (P.x.val % 2)
theorem encN_lt (P : Pt) : encN P < 115792089237316195423570985008687907853269984665640564039457584007913129639936 := by
 have h1 := P.y.isLt
 have h2 : pN < 57896044618658097711785492504343953926634992332820282019728792003956564819968 := by decide
 unfold encN
 omega
theorem encN_y (P : Pt) : encN P % 57896044618658097711785492504343953926634992332820282019728792003956564819968 = P.y.val := by
 have h1 := P.y.isLt
 have h2 : pN < 57896044618658097711785492504343953926634992332820282019728792003956564819968 := by decide
 unfold encN
 rw [Nat.add_mul_mod_self_left]
 exact Nat.mod_eq_of_lt (by omega)
theorem encN_x (P : Pt) : encN P / 57896044618658097711785492504343953926634992332820282019728792003956564819968 = P.x.val % 2 := by
 have h1 := P.y.isLt
 have h2 : pN < 57896044618658097711785492504343953926634992332820282019728792003956564819968 := by decide
 unfold encN
 rw [Nat.add_mul_div_left _ _ (by decide), Nat.div_eq_of_lt (by omega), Nat.zero_add]

/-! ### The point of a number -/
theorem f_one_of {n : Nat} [NeZero n] {d : Fin n} (h : d * (0 * 0) + 1 = 0) : (1 : Fin n) = 0 := by grobner
theorem den_y (y : Fin pN) : dK * (y * y) + 1 ≠ 0 := fun h => by
 have hy : y ≠ 0 := fun h0 => by rw [h0] at h; exact one_ne (f_one_of h)
 exact no_square (a := 1) hy (by grind)
def uN (Y : Nat) : Nat := (Y * Y % pN + (pN - 1)) % pN
def vN (Y : Nat) : Nat := (Y * Y % pN * dN + 1) % pN
theorem kk_uN (Y : Nat) : kk pN (uN Y) = kk pN Y * kk pN Y - 1 := by
 unfold uN
 rw [kk_mod, kk_add, kk_mod, kk_mul, kk_neg (by decide), kk_one]
 grind
theorem kk_vN (Y : Nat) : kk pN (vN Y) = dK * (kk pN Y * kk pN Y) + 1 := by
 unfold vN dK
 rw [kk_mod, kk_add, kk_mul, kk_mod, kk_mul, kk_one]
 grind
theorem vN_ne (Y : Nat) : vN Y % pN ≠ 0 := fun h => den_y (kk pN Y) (by rw [← kk_vN]; exact kk_is_zero.2 h)

theorem rootN_sound {u v : Nat} (h : (rootN u v).2 = true) : v * (rootN u v).1 * (rootN u v).1 % pN = u % pN := by
 have ev : ∀ r, r < pN → kk pN (evenN r) * kk pN (evenN r) = kk pN r * kk pN r := fun r hr => by
  unfold evenN
  split
  ·rw [kk_mod, kk_neg (Nat.le_of_lt hr)]
   grind
  ·rfl
 revert h
 unfold rootN
 split
 ·intro h; cases h
 ·split
  ·rename_i h1
   intro _
   rw [← h1]
   have := ev _ (rootR_lt u v)
   show v * evenN (rootR u v) * evenN (rootR u v) % pN = v * rootR u v * rootR u v % pN
   rw [← kk_iff, kk_mul, kk_mul, kk_mul, kk_mul]
   generalize kk pN (evenN (rootR u v)) = s at *
   generalize kk pN (rootR u v) = t at *
   grind
  ·split
   ·rename_i h1 h2
    intro _
    have := ev (rootR u v * unitN % pN) (Nat.mod_lt _ pos_pN)
    show v * evenN (rootR u v * unitN % pN) * evenN (rootR u v * unitN % pN) % pN = u % pN
    rw [kk_mod, kk_mul] at this
    rw [← kk_iff, kk_neg (Nat.le_of_lt (Nat.mod_lt _ pos_pN)), kk_mod, kk_mul, kk_mul] at h2
    rw [← kk_iff, kk_mul, kk_mul]
    have hJ := unit_sq
    generalize kk pN (evenN (rootR u v * unitN % pN)) = s at *
    generalize kk pN (rootR u v) = t at *
    generalize kk pN unitN = J at *
    grind
   ·intro h; cases h
theorem evenN_even {r : Nat} (h : r < pN) : evenN r % 2 = 0 := by
 have hodd : pN % 2 = 1 := by decide
 unfold evenN
 split
 ·rw [Nat.mod_eq_of_lt (show pN - r < pN by omega)]
  omega
 ·omega
theorem rootN_even (u v : Nat) : (rootN u v).1 % 2 = 0 := by
 unfold rootN
 split
 ·rfl
 ·split
  ·exact evenN_even (rootR_lt u v)
  ·split
   ·exact evenN_even (Nat.mod_lt _ pos_pN)
   ·rfl
def xOf (Y odd : Nat) : Nat := if odd = 1 then (pN - (rootN (uN Y) (vN Y)).1) % pN else (rootN (uN Y) (vN Y)).1
def isPt (V : Nat) : Prop := V % 57896044618658097711785492504343953926634992332820282019728792003956564819968 < pN ∧ (rootN (uN (V % 57896044618658097711785492504343953926634992332820282019728792003956564819968)) (vN (V % 57896044618658097711785492504343953926634992332820282019728792003956564819968))).2 = true ∧
 ¬ (V / 57896044618658097711785492504343953926634992332820282019728792003956564819968 = 1 ∧ (rootN (uN (V % 57896044618658097711785492504343953926634992332820282019728792003956564819968)) (vN (V % 57896044618658097711785492504343953926634992332820282019728792003956564819968))).1 = 0)
theorem on_of {Y x : Nat} (h : vN Y * x * x % pN = uN Y % pN) : kk pN Y * kk pN Y - kk pN x * kk pN x = 1 + dK * kk pN x * kk pN x * kk pN Y * kk pN Y := by
 rw [← kk_iff, kk_mul, kk_mul, kk_uN, kk_vN] at h
 generalize kk pN Y = y at *
 generalize kk pN x = X at *
 grind
theorem of_on (P : Pt) : vN P.y.val * P.x.val * P.x.val % pN = uN P.y.val % pN := by
 rw [← kk_iff, kk_mul, kk_mul, kk_uN, kk_vN, ← kk_all P.y, ← kk_all P.x]
 have := P.on
 grind
theorem xOf_lt (Y odd : Nat) : xOf Y odd < pN := by
 unfold xOf
 split
 ·exact Nat.mod_lt _ pos_pN
 ·exact rootN_lt _ _
theorem kk_val {a : Nat} (h : a < pN) : (kk pN a).val = a := Nat.mod_eq_of_lt h
theorem pt_of {V : Nat} (hV : V < 115792089237316195423570985008687907853269984665640564039457584007913129639936) (h : isPt V) :
  ∃ P : Pt, encN P = V ∧ P.y.val = V % 57896044618658097711785492504343953926634992332820282019728792003956564819968 ∧ P.x.val = xOf (V % 57896044618658097711785492504343953926634992332820282019728792003956564819968) (V / 57896044618658097711785492504343953926634992332820282019728792003956564819968) := by
 obtain ⟨h1, h2, h3⟩ := h
 have hd := Nat.div_add_mod V 57896044618658097711785492504343953926634992332820282019728792003956564819968
 have ho : V / 57896044618658097711785492504343953926634992332820282019728792003956564819968 < 2 := by omega
 obtain ⟨Y, hY⟩ : ∃ Y, V % 57896044618658097711785492504343953926634992332820282019728792003956564819968 = Y := ⟨_, rfl⟩
 obtain ⟨o, hO⟩ : ∃ o, V / 57896044618658097711785492504343953926634992332820282019728792003956564819968 = o := ⟨_, rfl⟩
 rw [hY] at h1 h2 h3 hd ⊢
 rw [hO] at h3 ho hd ⊢
 have hs := rootN_sound h2
 have he := rootN_even (uN Y) (vN Y)
 have hl := rootN_lt (uN Y) (vN Y)
 have hx : vN Y * xOf Y o * xOf Y o % pN = uN Y % pN := by
  rw [← hs, ← kk_iff, kk_mul, kk_mul, kk_mul, kk_mul]
  unfold xOf
  split
  ·rw [kk_mod, kk_neg (Nat.le_of_lt hl)]
   grind
  ·rfl
 have hxl := xOf_lt Y o
 have hpar : xOf Y o % 2 = o := by
  have hodd : pN % 2 = 1 := by decide
  unfold xOf
  split
  ·rename_i h5
   have hr0 : (rootN (uN Y) (vN Y)).1 ≠ 0 := fun h => h3 ⟨h5, h⟩
   rw [Nat.mod_eq_of_lt (show pN - (rootN (uN Y) (vN Y)).1 < pN by omega)]
   omega
  ·omega
 refine ⟨⟨kk pN (xOf Y o), kk pN Y, on_of hx⟩, ?_, kk_val h1, kk_val hxl⟩
 show (kk pN Y).val + 57896044618658097711785492504343953926634992332820282019728792003956564819968 * ((kk pN (xOf Y o)).val % 2) = V
 rw [kk_val h1, kk_val hxl, hpar]
 omega
theorem of_pt (P : Pt) : isPt (encN P) := by
 have h := of_on P
 have hr := rootN_of (vN_ne P.y.val) h
 unfold isPt
 rw [encN_y, encN_x, hr]
 have hl := P.x.isLt
 refine ⟨P.y.isLt, rfl, fun ⟨h1, h2⟩ => ?_⟩
 have h2' : evenN (P.x.val % pN) = 0 := h2
 rw [Nat.mod_eq_of_lt hl] at h2'
 unfold evenN at h2'
 rw [if_pos h1, Nat.mod_eq_of_lt (show pN - P.x.val < pN by omega)] at h2'
 omega
theorem encN_inj {P Q : Pt} (h : encN P = encN Q) : P = Q := by
 have hy : P.y.val = Q.y.val := by rw [← encN_y, h, encN_y]
 have hx : P.x.val % 2 = Q.x.val % 2 := by rw [← encN_x, h, encN_x]
 have hP := rootN_of (vN_ne P.y.val) (of_on P)
 have hQ := rootN_of (vN_ne Q.y.val) (of_on Q)
 rw [hy] at hP
 rw [hP] at hQ
 have he : evenN (P.x.val % pN) = evenN (Q.x.val % pN) := congrArg Prod.fst hQ
 have lP := P.x.isLt
 have lQ := Q.x.isLt
 rw [Nat.mod_eq_of_lt lP, Nat.mod_eq_of_lt lQ] at he
 have hodd : pN % 2 = 1 := by decide
 refine Pt.same (Fin.ext ?_) (Fin.ext hy)
 unfold evenN at he
 rw [← hx] at he
 split at he
 ·rw [Nat.mod_eq_of_lt (show pN - P.x.val < pN by omega), Nat.mod_eq_of_lt (show pN - Q.x.val < pN by omega)] at he
  omega
 ·exact he
end Go.Proofs.YthddoelflmoedaaGreat
namespace Go.Proofs.YthddoelflmoedaaGreat
open Go.RowKit
set_option maxRecDepth 100000

theorem fill_congr {p q : Nat → Option (Nat × Nat)} : ∀ (parts : List (Nat × Value)) (cells : Array Value), (∀ x ∈ parts, p x.1 = q x.1) → Instr.fill p cells parts = Instr.fill q cells parts
 | [], _, _ => rfl
 | (i, v) :: rest, cells, h => by
  have hh : p i = q i := h (i, v) (List.mem_cons_self ..)
  unfold Instr.fill
  rw [hh]
  cases q i with
  | none => rfl
  | some x =>
   simp only []
   split
   ·rfl
   ·exact fill_congr rest _ (fun x hx => h x (List.mem_cons_of_mem _ hx))

section
variable {P : Program} {a : Act} {w : World} {o : Oper}
theorem v_buildRows {t n s : Nat} {parts : List (Nat × Operand)} {it : TypeInfo} {fields : Array Field} {z : Value} {kd : IntKind} (rows : List (List Nat)) (ho : o.op = .build t parts.toArray)
  (h1 : P.info? t = some it) (h2 : P.underlying t = some (.struct fields)) (h3 : it.zero = some z) (h4 : fields.toList.mapM (fun f => (P.info? f.type).map fun i => (f.offset, i.size)) = some ((List.range n).map fun i => (i * s, s))) (h5 : z.cells.size = n * s)
  (hp : parts.map (fun p => (p.1, a.eval p.2)) = (rows.map (ints kd)).zipIdx.map fun x => (x.2, Value.agg x.1)) (hn : rows.length = n) (hr : ∀ r ∈ rows, r.length = s) : Val P o a (.agg (ints kd rows.flatten)) w := v_run fun w => by
 obtain ⟨r, hf, hl⟩ := fill_rows s (rows.map (ints kd)) 0 z.cells (fun v hv => by
  obtain ⟨x, hx, rfl⟩ := List.mem_map.1 hv
  rw [ints_size, hr x hx]) (by simp [hn, h5])
 have hre : r = ints kd rows.flatten := by
  apply Array.ext'
  rw [hl]
  simp [ints, List.map_flatten, Function.comp_def]
 subst hre
 have hb : P.built t ((rows.map (ints kd)).zipIdx.map fun x => (x.2, Value.agg x.1)) = some (ints kd rows.flatten) := by
  unfold Program.built
  simp only [h1, h2, h3, h4]
  rw [← hf]
  refine fill_congr _ _ fun x hx => ?_
  obtain ⟨y, hy, rfl⟩ := List.mem_map.1 hx
  obtain ⟨v, i⟩ := y
  have hi := List.mem_zipIdx hy
  have hlt : i < n := by
   have := hi.2.1
   rw [List.length_map, hn] at this
   omega
  simp [hlt]
 unfold execOp
 simp only [ho, List.map_toArray, Sem.run_bind]
 rw [run_build (P := P) w t _ (ints kd rows.flatten) (by rw [← hb, ← hp])]
 rfl
theorem v_loadPartE {w0 : World} {l : List Blk} {ty : TypeId} {x : Operand} {g i k n : Nat} {T : TypeId} {X Y : List Nat} {kd : IntKind} {d : TypeDesc} (he : (X.drop k).take n = Y) (hE : Env w0 l w) (ho : o.op = .load ty x) (hx : a.eval x = .pointer (some ⟨g, k, none⟩)) (hi : l[i]? = some ⟨g, T, ints kd X⟩)
  (hu : P.underlying ty = some d) (hd : d.isRow = true) (hs : (P.info? ty).map (·.size) = some n) (hn : k + n ≤ X.length) : Val P o a (.agg (ints kd Y)) w := he ▸ v_loadPart hE ho hx hi hu hd hs hn
end
end Go.Proofs.YthddoelflmoedaaGreat
namespace Go.Proofs.YthddoelflmoedaaGreat
open Go.RowKit
set_option maxRecDepth 100000
section walk
variable {P : Program} {ops : Array Oper} {Q : Exit → Act → World → Prop} {a : Act} {w w0 : World} {l : List Blk} {o : Oper} {rest : List Oper} {v : Value}
theorem endK3 {tail : List Oper} {a' : Act} {m1 m2 m3 : MadeVar} (h : ∀ g1 g2 g3 w', Env w0 (⟨g1, m1.ty, m1.zs⟩ :: ⟨g2, m2.ty, m2.zs⟩ :: ⟨g3, m3.ty, m3.zs⟩ :: l) w' → wpList P ops Q tail (((a'.put (some m1.dst) (.pointer (some ⟨g1, 0, none⟩))).put (some m2.dst) (.pointer (some ⟨g2, 0, none⟩))).put (some m3.dst) (.pointer (some ⟨g3, 0, none⟩))) w') :
  ∀ (gs : List Nat) (w' : World), gs.length = ([] ++ [m1] ++ [m2] ++ [m3]).length → Env w0 (madeBlks ([] ++ [m1] ++ [m2] ++ [m3]) gs ++ l) w' → wpList P ops Q tail (putAll a' ([] ++ [m1] ++ [m2] ++ [m3]) gs) w' := by
 intro gs w' hl hE
 match gs, hl with
 | [g1, g2, g3], _ => exact h g1 g2 g3 w' hE
theorem endK4 {tail : List Oper} {a' : Act} {m1 m2 m3 m4 : MadeVar} (h : ∀ g1 g2 g3 g4 w', Env w0 (⟨g1, m1.ty, m1.zs⟩ :: ⟨g2, m2.ty, m2.zs⟩ :: ⟨g3, m3.ty, m3.zs⟩ :: ⟨g4, m4.ty, m4.zs⟩ :: l) w' → wpList P ops Q tail ((((a'.put (some m1.dst) (.pointer (some ⟨g1, 0, none⟩))).put (some m2.dst) (.pointer (some ⟨g2, 0, none⟩))).put (some m3.dst) (.pointer (some ⟨g3, 0, none⟩))).put (some m4.dst) (.pointer (some ⟨g4, 0, none⟩))) w') :
  ∀ (gs : List Nat) (w' : World), gs.length = ([] ++ [m1] ++ [m2] ++ [m3] ++ [m4]).length → Env w0 (madeBlks ([] ++ [m1] ++ [m2] ++ [m3] ++ [m4]) gs ++ l) w' → wpList P ops Q tail (putAll a' ([] ++ [m1] ++ [m2] ++ [m3] ++ [m4]) gs) w' := by
 intro gs w' hl hE
 match gs, hl with
 | [g1, g2, g3, g4], _ => exact h g1 g2 g3 g4 w' hE
end walk
end Go.Proofs.YthddoelflmoedaaGreat
namespace Go.Proofs.YthddoelflmoedaaGreat
open Go.RowKit
set_option maxRecDepth 100000

section
variable {a : Act} {w : World} {o : Oper}
theorem v_point {parts : List (Nat × Operand)} {L : List Nat} (rows : List (List Nat)) (hL : rows.flatten = L) (ho : o.op = .build 55 parts.toArray)
  (hp : parts.map (fun p => (p.1, a.eval p.2)) = (rows.map (ints .u64)).zipIdx.map fun x => (x.2, Value.agg x.1)) (hn : rows.length = 4) (hr : ∀ r ∈ rows, r.length = 5) : Val Tryz.prog o a (.agg (ints .u64 L)) w := by
 subst hL
 exact v_buildRows (n := 4) (s := 5) rows ho (by kernel_rfl : _ = some Tryz.t55) Tryz.underlying55 rfl (by kernel_rfl) (by kernel_rfl) hp hn hr
end

abbrev pt (l : List Nat) : Value := .agg (ints .u64 l)
structure PRep (l : List Nat) (P : Pt) : Prop where
 len : l.length = 20
 fx : Fe ((l.drop 0).take 5)
 fy : Fe ((l.drop 5).take 5)
 fz : Fe ((l.drop 10).take 5)
 ft : Fe ((l.drop 15).take 5)
 nz : fk ((l.drop 10).take 5) ≠ 0
 ex : fk ((l.drop 0).take 5) = P.x * fk ((l.drop 10).take 5)
 ey : fk ((l.drop 5).take 5) = P.y * fk ((l.drop 10).take 5)
 et : fk ((l.drop 15).take 5) = P.x * P.y * fk ((l.drop 10).take 5)
theorem PRep_mk {x y z t : List Nat} {P : Pt} (fx : Fe x) (fy : Fe y) (fz : Fe z) (ft : Fe t) (nz : fk z ≠ 0) (ex : fk x = P.x * fk z) (ey : fk y = P.y * fk z) (et : fk t = P.x * P.y * fk z) : PRep [x, y, z, t].flatten P := by
 have lx := fx.1
 have ly := fy.1
 have lz := fz.1
 have lt := ft.1
 have e : [x, y, z, t].flatten = x ++ (y ++ (z ++ t)) := by simp
 have e0 : ((x ++ (y ++ (z ++ t))).drop 0).take 5 = x := by
  rw [List.drop_zero, List.take_left' lx]
 have e1 : ((x ++ (y ++ (z ++ t))).drop 5).take 5 = y := by
  rw [List.drop_left' lx, List.take_left' ly]
 have e2 : ((x ++ (y ++ (z ++ t))).drop 10).take 5 = z := by
  rw [show (10 : Nat) = 5 + 5 from rfl, ← List.drop_drop, List.drop_left' lx, List.drop_left' ly, List.take_left' lz]
 have e3 : ((x ++ (y ++ (z ++ t))).drop 15).take 5 = t := by
  rw [show (15 : Nat) = 5 + (5 + 5) from rfl, ← List.drop_drop, ← List.drop_drop, List.drop_left' lx, List.drop_left' ly, List.drop_left' lz, List.take_of_length_le (by omega)]
 rw [e]
 exact ⟨by simp only [List.length_append]; omega, by rwa [e0], by rwa [e1], by rwa [e2], by rwa [e3], by rwa [e2], by rwa [e0, e2], by rwa [e1, e2], by rwa [e3, e2]⟩
theorem rows5 {a b c d : List Nat} (ha : a.length = 5) (hb : b.length = 5) (hc : c.length = 5) (hd : d.length = 5) : ∀ r ∈ [a, b, c, d], r.length = 5 := by
 intro r hr
 simp only [List.mem_cons, List.not_mem_nil, or_false] at hr
 rcases hr with rfl | rfl | rfl | rfl <;> assumption

def zeroL : List Nat := [0, 0, 0, 0, 0, 1, 0, 0, 0, 0, 1, 0, 0, 0, 0, 0, 0, 0, 0, 0]
theorem PRep_zero : PRep zeroL pzero := by
 have e : zeroL = [List.replicate 5 0, [1, 0, 0, 0, 0], [1, 0, 0, 0, 0], List.replicate 5 0].flatten := rfl
 have h1 := Small_K (n := 1) (by decide)
 have hz : fk (List.replicate 5 0) = 0 := by
  unfold fk
  rw [show fval (List.replicate 5 0) = 0 from val_replicate _ _, kk_zero]
 have h2 : fk [1, 0, 0, 0, 0] = 1 := h1.2.1
 rw [e]
 refine PRep_mk Fe_zero h1.1 h1.1 Fe_zero (by rw [h2]; exact one_ne) ?_ ?_ ?_
 ·rw [hz, h2]; show (0 : Fin pN) = 0 * 1; grind
 ·rw [h2]; show (1 : Fin pN) = 1 * 1; grind
 ·rw [hz, h2]; show (0 : Fin pN) = 0 * 1 * 1; grind
set_option maxHeartbeats 1000000 in
theorem PZero_any (w : World) : Gives 51 #[] w (pt zeroL) := by
 have lz : zeroL.length = 20 := rfl
 have HS := Lib.hid (Small_any (n := 1) (by decide)).2.2
 have hE0 := Env.nil w
 go_enter Tryz.func51, Tryz.ntmps51
 repeat ((fail_if_success refine sqx ?_); go_step)
 refine wl_step (sqA (ints .u64 (List.replicate 20 0)) hE0 ?_)
 intro g0 w1 hb1 hE1
 clear hE0
 simp only [qZ]
 repeat ((fail_if_success refine sqx ?_); go_step)
 refine wl_step (st_gives hE1 rfl (run_call rfl Tryz.call70) (HS.out _) ?_)
 intro w2 hb2 hE2
 clear hE1
 simp only [qZ]
 refine wl_step (st_gives hE2 rfl (run_call rfl Tryz.call70) (HS.out _) ?_)
 intro w3 hb3 hE3
 clear hE2
 simp only [qZ]
 refine wqv (v_built (k := .u64) (l := zeroL) rfl (fun w => by kernel_rfl)) ?_
 refine wl_step (sqS 0 20 hE3 ?_)
 intro w4 hE4
 clear hE3
 simp only [qpB, qpC] at hE4
 simp only [qZ]
 repeat ((fail_if_success refine sqx ?_); go_step)
 refine bodyPost_ret (results_cell_row rfl _ _ _ _ _ (0, 0) _ rfl (hE4.get (i := 0) rfl) Tryz.underlying55 rfl (szqA (n := 20))) rfl ⟨rfl, hE4.below⟩

def dB : List Nat := [0xa3, 0x78, 0x59, 0x13, 0xca, 0x4d, 0xeb, 0x75, 0xab, 0xd8, 0x41, 0x41, 0x4d, 0x0a, 0x70, 0x00, 0x98, 0xe8, 0x79, 0x77, 0x79, 0x40, 0xc7, 0x8c, 0x73, 0xfe, 0x6f, 0x2b, 0xee, 0x6c, 0x03, 0x52]
theorem dB_val : val 256 dB = dN := by kernel_rfl
theorem of_fk {V : Nat} (h : V < pN) : fk (digs 2251799813685248 5 V) = kk pN V := by
 unfold fk
 rw [digs_fval, Nat.mod_eq_of_lt (Nat.lt_trans h (by decide))]
set_option maxHeartbeats 1000000 in
theorem once_any : ∃ c, Fe c ∧ fk c = dK ∧ ∀ w, Gives 73 #[] w (elem c) := by
 refine ⟨_, digs_Fe dN, of_fk dN_lt, fun w => ?_⟩
 have hO := Lib.hid (fun w => dB_val ▸ Of_any dB rfl (by unfold Digs dB; decide) w)
 have hdl : (digs 2251799813685248 5 dN).length = 5 := digs_length _ _ _
 have hE0 := Env.nil w
 go_enter Tryz.func73, Tryz.ntmps73
 repeat ((fail_if_success refine sqx ?_); go_step)
 refine wl_step (sqA (ints .u64 (List.replicate 5 0)) hE0 ?_)
 intro g0 w1 hb1 hE1
 clear hE0
 simp only [qZ]
 repeat ((fail_if_success refine sqx ?_); go_step)
 refine wqv (v_built (k := .u8) (l := dB) rfl (fun w => by kernel_rfl)) ?_
 refine wl_step (st_gives hE1 rfl (run_call rfl Tryz.call49) (hO.out _) ?_)
 intro w2 hb2 hE2
 clear hE1
 simp only [qZ]
 refine wl_step (sqS 0 5 hE2 ?_)
 intro w3 hE3
 clear hE2
 simp only [qpB, qpC] at hE3
 simp only [qZ]
 repeat ((fail_if_success refine sqx ?_); go_step)
 refine bodyPost_ret (results_cell_row rfl _ _ _ _ _ (0, 0) _ rfl (hE3.get (i := 0) rfl) Tryz.underlying53 rfl (szqA (n := 5))) rfl ⟨rfl, hE3.below⟩
set_option maxHeartbeats 1000000 in
theorem factor_any : ∃ c, Fe c ∧ fk c = dK + dK ∧ ∀ w, Gives 91 #[] w (elem c) := by
 obtain ⟨d, f1, e1, G1⟩ := once_any
 obtain ⟨c, f2, e2, G2⟩ := Add_K f1 f1
 refine ⟨c, f2, by rw [e2, e1], fun w => ?_⟩
 have l1 := f1.1
 have l2 := f2.1
 have H1 := Lib.hid G1
 have H2 := Lib.hid G2
 clear f1 e1 G1 f2 e2 G2
 have hE0 := Env.nil w
 go_enter Tryz.func91, Tryz.ntmps91
 repeat ((fail_if_success refine sqx ?_); go_step)
 refine wl_step (sqA (ints .u64 (List.replicate 5 0)) hE0 ?_)
 intro g0 w1 hb1 hE1
 clear hE0
 simp only [qZ]
 repeat ((fail_if_success refine sqx ?_); go_step)
 refine wl_step (st_gives hE1 rfl (run_call rfl Tryz.call73) (H1.out _) ?_)
 intro w2 hb2 hE2
 clear hE1
 simp only [qZ]
 refine wl_step (st_gives hE2 rfl (run_call rfl Tryz.call73) (H1.out _) ?_)
 intro w3 hb3 hE3
 clear hE2
 simp only [qZ]
 refine wl_step (st_gives hE3 rfl (run_call rfl Tryz.call74) (H2.out _) ?_)
 intro w4 hb4 hE4
 clear hE3
 simp only [qZ]
 refine wl_step (sqS 0 5 hE4 ?_)
 intro w5 hE5
 clear hE4
 simp only [qpB, qpC] at hE5
 simp only [qZ]
 repeat ((fail_if_success refine sqx ?_); go_step)
 refine bodyPost_ret (results_cell_row rfl _ _ _ _ _ (0, 0) _ rfl (hE5.get (i := 0) rfl) Tryz.underlying53 rfl (szqA (n := 5))) rfl ⟨rfl, hE5.below⟩

set_option maxHeartbeats 2000000 in
theorem PNeg_any {l : List Nat} {P : Pt} (h : PRep l P) : ∃ c, PRep c (pneg P) ∧ ∀ w, Gives 31 #[pt l] w (pt c) := by
 obtain ⟨len, fx, fy, fz, ft, nz, ex, ey, et⟩ := h
 obtain ⟨x, hx⟩ : ∃ x, (l.drop 0).take 5 = x := ⟨_, rfl⟩
 obtain ⟨y, hy⟩ : ∃ y, (l.drop 5).take 5 = y := ⟨_, rfl⟩
 obtain ⟨z, hz⟩ : ∃ z, (l.drop 10).take 5 = z := ⟨_, rfl⟩
 obtain ⟨t, ht⟩ : ∃ t, (l.drop 15).take 5 = t := ⟨_, rfl⟩
 rw [hx] at fx ex
 rw [hy] at fy ey
 rw [hz] at fz nz ex ey et
 rw [ht] at ft et
 obtain ⟨x', fx', ex', Gx⟩ := Neg_K fx
 obtain ⟨t', ft', et', Gt⟩ := Neg_K ft
 have hR : PRep [x', y, z, t'].flatten (pneg P) := PRep_mk fx' fy fz ft' nz (by
  show fk x' = - P.x * fk z
  rw [ex', ex]; grobner) ey (by
  show fk t' = - P.x * P.y * fk z
  rw [et', et]; grobner)
 have hr5 := rows5 fx'.1 fy.1 fz.1 ft'.1
 obtain ⟨L, hL⟩ : ∃ L, [x', y, z, t'].flatten = L := ⟨_, rfl⟩
 rw [hL] at hR
 refine ⟨L, hR, fun w => ?_⟩
 have lL := hR.len
 have lx := fx.1
 have ly := fy.1
 have lz := fz.1
 have lt := ft.1
 have HX := Lib.hid hx
 have HY := Lib.hid hy
 have HZ := Lib.hid hz
 have HT := Lib.hid ht
 have HL := Lib.hid hL
 have H5 := Lib.hid hr5
 have H1 := Lib.hid Gx
 have H2 := Lib.hid Gt
 clear hx hy hz ht hL hr5 Gx Gt hR ex ey et ex' et' fx fy fz ft fx' ft' nz
 have hE0 := Env.nil w
 go_enter Tryz.func31, Tryz.ntmps31
 repeat ((fail_if_success refine sqx ?_); go_step)
 refine wl_step (st_boxA hE0 rfl rfl rfl ?_)
 intro g0 w1 hb1 hE1
 clear hE0
 simp only [qZ]
 refine wl_step (sqA (ints .u64 (List.replicate 20 0)) hE1 ?_)
 intro g1 w2 hb2 hE2
 clear hE1
 simp only [qZ]
 repeat ((fail_if_success refine sqx ?_); go_step)
 refine wp_region_B (n := 12) 11 (by kernel_rfl) rfl hE2 ?_
 intro w3 hb3 hE3
 clear hE2
 refine tqB 0 rfl (v_field0 (s := 4) rfl rfl Tryz.underlying55 rfl (by kernel_rfl) rfl) ?_
 refine tqB 1 rfl (v_loadPartE (i := 1) (n := 5) HX.out hE3 rfl rfl rfl Tryz.underlying53 rfl (by kernel_rfl) (by omega)) ?_
 refine tqB 3 rfl (v_fieldB (s := 4) rfl rfl Tryz.underlying55 rfl (by kernel_rfl) rfl) ?_
 refine tqB 4 rfl (v_loadPartE (i := 1) (n := 5) HY.out hE3 rfl rfl rfl Tryz.underlying53 rfl (by kernel_rfl) (by omega)) ?_
 refine tqB 5 rfl (v_fieldB (s := 4) rfl rfl Tryz.underlying55 rfl (by kernel_rfl) rfl) ?_
 refine tqB 6 rfl (v_loadPartE (i := 1) (n := 5) HZ.out hE3 rfl rfl rfl Tryz.underlying53 rfl (by kernel_rfl) (by omega)) ?_
 refine tqB 7 rfl (v_fieldB (s := 4) rfl rfl Tryz.underlying55 rfl (by kernel_rfl) rfl) ?_
 refine tqB 8 rfl (v_loadPartE (i := 1) (n := 5) HT.out hE3 rfl rfl rfl Tryz.underlying53 rfl (by kernel_rfl) (by omega)) ?_
 refine sqB 2 rfl (st_gives hE3 rfl (run_call rfl Tryz.call76) (H1.out _) ?_)
 intro w4 hb4 hE4
 clear hE3
 refine ⟨fun _ => hb4, ?_⟩
 simp only [qZ]
 refine sqB 9 rfl (st_gives hE4 rfl (run_call rfl Tryz.call76) (H2.out _) ?_)
 intro w5 hb5 hE5
 clear hE4
 refine ⟨fun _ => hb5, ?_⟩
 simp only [qZ]
 refine tqB 10 rfl (v_point [x', y, z, t'] HL.out rfl (by simp only [List.map_cons, List.map_nil, List.zipIdx_cons, List.zipIdx_nil]; rfl) rfl H5.out) ?_
 refine sqB 11 rfl (sqS 0 20 hE5 ?_)
 intro w6 hE6
 clear hE5
 simp only [qpB, qpC] at hE6
 refine nqB ?_
 simp only [qZ]
 refine wpB_done (by kernel_rfl) ?_ _
 repeat ((fail_if_success refine sqx ?_); go_step)
 refine bodyPost_ret (results_cell_row rfl _ _ _ _ _ (0, 0) _ rfl (hE6.get (i := 0) rfl) Tryz.underlying55 rfl (szqA (n := 20))) rfl ⟨rfl, hE6.below⟩
end Go.Proofs.YthddoelflmoedaaGreat
