/-
  Plain law: numbers as lists of digits, the lowest digit first, over any base. No program in sight.
  No condition.
-/
namespace Go.Proofs.YtnbbehgcnodfbaaDoor
set_option maxRecDepth 100000

/-- The number of a list of digits, the lowest one first. -/
def val (B : Nat) : List Nat → Nat
  | [] => 0
  | d :: r => d + B * val B r

/-- The lowest k digits of a number, the lowest one first. -/
def digs (B : Nat) : Nat → Nat → List Nat
  | 0, _ => []
  | k + 1, n => n % B :: digs B k (n / B)

/-- Each digit is below the base. -/
def Digs (B : Nat) (l : List Nat) : Prop := ∀ d ∈ l, d < B

theorem val_nil (B : Nat) : val B [] = 0 := rfl
theorem val_cons (B d : Nat) (r : List Nat) : val B (d :: r) = d + B * val B r := rfl

theorem Digs.nil {B : Nat} : Digs B [] := fun _ h => by cases h
theorem Digs.cons {B d : Nat} {r : List Nat} (h : d < B) (hr : Digs B r) : Digs B (d :: r) := by
  intro x hx
  rcases List.mem_cons.1 hx with rfl | hx
  · exact h
  · exact hr x hx
theorem Digs.head {B d : Nat} {r : List Nat} (h : Digs B (d :: r)) : d < B := h d (List.mem_cons_self ..)
theorem Digs.tail {B d : Nat} {r : List Nat} (h : Digs B (d :: r)) : Digs B r := fun x hx => h x (List.mem_cons_of_mem _ hx)
theorem Digs.append {B : Nat} {l r : List Nat} (h : Digs B l) (hr : Digs B r) : Digs B (l ++ r) := by
  intro x hx
  rcases List.mem_append.1 hx with hx | hx
  · exact h x hx
  · exact hr x hx
theorem Digs.take {B : Nat} {l : List Nat} (h : Digs B l) (n : Nat) : Digs B (l.take n) := fun x hx => h x (List.mem_of_mem_take hx)
theorem Digs.drop {B : Nat} {l : List Nat} (h : Digs B l) (n : Nat) : Digs B (l.drop n) := fun x hx => h x (List.mem_of_mem_drop hx)
theorem Digs.getD {B : Nat} {l : List Nat} (h : Digs B l) (hB : 0 < B) (i : Nat) : l.getD i 0 < B := by
  rw [List.getD_eq_getElem?_getD]
  rcases Nat.lt_or_ge i l.length with hi | hi
  · rw [List.getElem?_eq_getElem hi]; exact h _ (List.getElem_mem hi)
  · rw [List.getElem?_eq_none hi]; exact hB
theorem Digs.getElem {B : Nat} {l : List Nat} (h : Digs B l) {i : Nat} (hi : i < l.length) : l[i] < B := h _ (List.getElem_mem hi)
theorem Digs.set {B : Nat} {l : List Nat} (h : Digs B l) (i : Nat) {v : Nat} (hv : v < B) : Digs B (l.set i v) := by
  intro x hx
  rcases List.mem_or_eq_of_mem_set hx with hx | rfl
  · exact h x hx
  · exact hv

theorem digs_length (B k n : Nat) : (digs B k n).length = k := by
  induction k generalizing n with
  | zero => rfl
  | succ k ih => simp [digs, ih]

theorem digs_Digs {B : Nat} (hB : 0 < B) (k n : Nat) : Digs B (digs B k n) := by
  induction k generalizing n with
  | zero => exact Digs.nil
  | succ k ih => exact Digs.cons (Nat.mod_lt _ hB) (ih _)

theorem val_append (B : Nat) (l r : List Nat) : val B (l ++ r) = val B l + B ^ l.length * val B r := by
  induction l with
  | nil => simp [val]
  | cons d l ih =>
    simp only [List.cons_append, val, ih, List.length_cons, Nat.pow_succ]
    rw [Nat.mul_add, Nat.add_assoc, ← Nat.mul_assoc, Nat.mul_comm B (B ^ l.length)]

theorem val_lt {B : Nat} {l : List Nat} (h : Digs B l) : val B l < B ^ l.length := by
  induction l with
  | nil => simp [val]
  | cons d l ih =>
    have h1 := ih h.tail
    have h2 := h.head
    simp only [val, List.length_cons, Nat.pow_succ]
    calc d + B * val B l < B + B * val B l := by omega
      _ = B * (val B l + 1) := by rw [Nat.mul_add, Nat.mul_one, Nat.add_comm]
      _ ≤ B * B ^ l.length := Nat.mul_le_mul_left _ h1
      _ = B ^ l.length * B := Nat.mul_comm _ _

theorem val_digs (B k n : Nat) : val B (digs B k n) = n % B ^ k := by
  induction k generalizing n with
  | zero => simp [digs, val, Nat.mod_one]
  | succ k ih =>
    simp only [digs, val, ih, Nat.pow_succ]
    rw [Nat.mul_comm (B ^ k) B, Nat.mod_mul]

theorem digs_val {B : Nat} {l : List Nat} (h : Digs B l) : digs B l.length (val B l) = l := by
  induction l with
  | nil => rfl
  | cons d l ih =>
    have hd := h.head
    have hB : 0 < B := by omega
    simp only [List.length_cons, digs, val]
    rw [Nat.add_mul_mod_self_left, Nat.mod_eq_of_lt hd, Nat.add_mul_div_left _ _ hB, Nat.div_eq_of_lt hd, Nat.zero_add, ih h.tail]

theorem digs_val' {B k : Nat} {l : List Nat} (h : Digs B l) (hk : l.length = k) : digs B k (val B l) = l := by
  subst hk; exact digs_val h

theorem val_inj {B : Nat} {l r : List Nat} (hl : Digs B l) (hr : Digs B r) (hlen : l.length = r.length) (h : val B l = val B r) : l = r := by
  rw [← digs_val hl, ← digs_val hr, hlen, h]

theorem digs_mod (B k n : Nat) : digs B k (n % B ^ k) = digs B k n := by
  rcases Nat.eq_zero_or_pos B with rfl | hB
  · cases k with
    | zero => rfl
    | succ k => simp
  · refine val_inj (digs_Digs hB _ _) (digs_Digs hB _ _) (by simp [digs_length]) ?_
    rw [val_digs, val_digs, Nat.mod_mod]

theorem digs_getElem? (B k n i : Nat) (h : i < k) : (digs B k n)[i]? = some (n / B ^ i % B) := by
  induction k generalizing n i with
  | zero => omega
  | succ k ih =>
    cases i with
    | zero => simp [digs]
    | succ i =>
      simp only [digs, List.getElem?_cons_succ]
      rw [ih _ _ (by omega), Nat.div_div_eq_div_mul, Nat.pow_succ, Nat.mul_comm B]

theorem digs_getD (B k n i : Nat) (h : i < k) : (digs B k n).getD i 0 = n / B ^ i % B := by
  rw [List.getD_eq_getElem?_getD, digs_getElem? _ _ _ _ h]; rfl

/-- A digit of a number that is told by its digits. -/
theorem val_div_mod {B : Nat} {l : List Nat} (h : Digs B l) (hB : 0 < B) (i : Nat) : val B l / B ^ i % B = l.getD i 0 := by
  rcases Nat.lt_or_ge i l.length with hi | hi
  · have := digs_getD B l.length (val B l) i hi
    rw [digs_val h] at this
    exact this.symm
  · have h1 := val_lt h
    have h2 : B ^ l.length ≤ B ^ i := Nat.pow_le_pow_right hB hi
    rw [Nat.div_eq_of_lt (Nat.lt_of_lt_of_le h1 h2), List.getD_eq_getElem?_getD, List.getElem?_eq_none hi]
    simp

theorem val_take_drop (B : Nat) (l : List Nat) (n : Nat) (hn : n ≤ l.length) : val B l = val B (l.take n) + B ^ n * val B (l.drop n) := by
  have := val_append B (l.take n) (l.drop n)
  rw [List.take_append_drop, List.length_take, Nat.min_eq_left hn] at this
  exact this

theorem val_take {B : Nat} {l : List Nat} (h : Digs B l) (n : Nat) (hn : n ≤ l.length) : val B (l.take n) = val B l % B ^ n := by
  rw [val_take_drop B l n hn, Nat.add_mul_mod_self_left, Nat.mod_eq_of_lt]
  have := val_lt (h.take n)
  rwa [List.length_take, Nat.min_eq_left hn] at this

theorem val_drop {B : Nat} {l : List Nat} (h : Digs B l) (n : Nat) (hn : n ≤ l.length) : val B (l.drop n) = val B l / B ^ n := by
  have h1 := val_lt (h.take n)
  rw [List.length_take, Nat.min_eq_left hn] at h1
  have hpos : 0 < B ^ n := by omega
  rw [val_take_drop B l n hn, Nat.add_mul_div_left _ _ hpos, Nat.div_eq_of_lt h1, Nat.zero_add]

/-- Every digit nought: the number is nought. -/
theorem val_replicate (B n : Nat) : val B (List.replicate n 0) = 0 := by
  induction n with
  | zero => rfl
  | succ n ih => simp [List.replicate_succ, val, ih]

theorem Digs.replicate {B : Nat} (hB : 0 < B) (n : Nat) : Digs B (List.replicate n 0) := by
  intro x hx
  rw [(List.mem_replicate.1 hx).2]; exact hB

/-- One digit is put. -/
theorem val_set {B : Nat} (l : List Nat) (i v : Nat) (hi : i < l.length) : val B (l.set i v) + B ^ i * l[i] = val B l + B ^ i * v := by
  induction l generalizing i with
  | nil => simp at hi
  | cons d l ih =>
    cases i with
    | zero => simp [val]; omega
    | succ i =>
      have hi' : i < l.length := by simpa using hi
      have := ih i hi'
      simp only [List.set_cons_succ, val, List.getElem_cons_succ, Nat.pow_succ]
      have e1 : B ^ i * B * l[i] = B * (B ^ i * l[i]) := by rw [Nat.mul_comm (B ^ i) B, Nat.mul_assoc]
      have e2 : B ^ i * B * v = B * (B ^ i * v) := by rw [Nat.mul_comm (B ^ i) B, Nat.mul_assoc]
      rw [e1, e2, Nat.add_assoc, ← Nat.mul_add, this, Nat.mul_add, Nat.add_assoc]

theorem digs_snoc (B k n : Nat) : digs B (k + 1) n = digs B k n ++ [n / B ^ k % B] := by
  induction k generalizing n with
  | zero => simp [digs]
  | succ k ih =>
    rw [digs, ih, digs, List.cons_append, Nat.div_div_eq_div_mul, Nat.pow_succ, Nat.mul_comm B]

theorem mod_pow_div_mod {B : Nat} (x k r : Nat) (h : r < k) : x % B ^ k / B ^ r % B = x / B ^ r % B := by
  have e : B ^ k = B ^ r * B ^ (k - r) := by rw [← Nat.pow_add]; congr 1; omega
  rw [e, Nat.mod_mul_right_div_self, Nat.mod_mod_of_dvd]
  exact Nat.dvd_of_pow_dvd (Nat.sub_pos_of_lt h) (Nat.dvd_refl _)

/-- A byte of a number, out of its words. -/
theorem byte_of_word (N n : Nat) : N / 18446744073709551616 ^ (n / 8) % 18446744073709551616 / 2 ^ (8 * (n % 8)) % 256 = N / 256 ^ n % 256 := by
  have e1 : (18446744073709551616 : Nat) = 256 ^ 8 := by decide
  have e2 : (2 : Nat) ^ (8 * (n % 8)) = 256 ^ (n % 8) := by rw [Nat.pow_mul]
  rw [e1, e2, mod_pow_div_mod _ 8 _ (Nat.mod_lt _ (by decide)), ← Nat.pow_mul, Nat.div_div_eq_div_mul, ← Nat.pow_add, Nat.div_add_mod]

/-- One byte more, laid into its word. -/
theorem word_of_byte {V c n i : Nat} (hV : V < 256 ^ i) (hc : c < 256) (hi : i < 8 * n) :
    digs 18446744073709551616 n (V + 256 ^ i * c) = (digs 18446744073709551616 n V).set (i / 8) (V / 18446744073709551616 ^ (i / 8) % 18446744073709551616 + c * 2 ^ (8 * (i % 8))) ∧
    V / 18446744073709551616 ^ (i / 8) % 18446744073709551616 < 2 ^ (8 * (i % 8)) ∧ c * 2 ^ (8 * (i % 8)) < 18446744073709551616 := by
  have e1 : (18446744073709551616 : Nat) = 256 ^ 8 := by decide
  have e2 : (2 : Nat) ^ (8 * (i % 8)) = 256 ^ (i % 8) := by rw [Nat.pow_mul]
  have hj : i / 8 < n := by omega
  have hi' : 8 * (i / 8) + i % 8 = i := Nat.div_add_mod i 8
  have hr : i % 8 < 8 := Nat.mod_lt _ (by decide)
  have hw : V / 18446744073709551616 ^ (i / 8) < 256 ^ (i % 8) := by
    rw [e1, ← Nat.pow_mul, Nat.div_lt_iff_lt_mul (Nat.pow_pos (by decide)), ← Nat.pow_add, Nat.add_comm, hi']
    exact hV
  have hw' : V / 18446744073709551616 ^ (i / 8) % 18446744073709551616 = V / 18446744073709551616 ^ (i / 8) := by
    refine Nat.mod_eq_of_lt (Nat.lt_of_lt_of_le hw ?_)
    rw [e1]
    exact Nat.pow_le_pow_right (by decide) (by omega)
  have hcs : V / 18446744073709551616 ^ (i / 8) + c * 256 ^ (i % 8) < 18446744073709551616 := by
    have h1 : V / 18446744073709551616 ^ (i / 8) + c * 256 ^ (i % 8) < 256 ^ (i % 8) * (c + 1) := by
      rw [Nat.mul_add, Nat.mul_comm (256 ^ (i % 8)) c, Nat.mul_one]; omega
    have h2 : 256 ^ (i % 8) * (c + 1) ≤ 256 ^ (i % 8) * 256 := Nat.mul_le_mul_left _ (by omega)
    have h3 : 256 ^ (i % 8) * 256 ≤ 256 ^ 8 := by rw [← Nat.pow_succ]; exact Nat.pow_le_pow_right (by decide) (by omega)
    rw [← e1] at h3
    exact Nat.lt_of_lt_of_le h1 (Nat.le_trans h2 h3)
  refine ⟨?_, by rw [hw', e2]; exact hw, by rw [e2]; omega⟩
  rw [e2, hw']
  have hlen : i / 8 < (digs 18446744073709551616 n V).length := by rw [digs_length]; exact hj
  have hset := val_set (B := 18446744073709551616) (digs 18446744073709551616 n V) (i / 8) (V / 18446744073709551616 ^ (i / 8) + c * 256 ^ (i % 8)) hlen
  have hget : (digs 18446744073709551616 n V)[i / 8] = V / 18446744073709551616 ^ (i / 8) := by
    have := digs_getElem? 18446744073709551616 n V (i / 8) hj
    rw [List.getElem?_eq_getElem hlen, Option.some.injEq] at this
    rw [this, hw']
  rw [hget, val_digs, Nat.mul_add, ← Nat.add_assoc, Nat.add_right_comm] at hset
  have hsum := Nat.add_right_cancel hset
  have hVn : V < 18446744073709551616 ^ n := by
    refine Nat.lt_of_lt_of_le hV ?_
    rw [e1, ← Nat.pow_mul]
    exact Nat.pow_le_pow_right (by decide) (by omega)
  have epow : 18446744073709551616 ^ (i / 8) * (c * 256 ^ (i % 8)) = 256 ^ i * c := by
    rw [Nat.mul_comm c, ← Nat.mul_assoc]
    congr 1
    conv => rhs; rw [← hi', Nat.pow_add, Nat.pow_mul]
  rw [Nat.mod_eq_of_lt hVn, epow] at hsum
  rw [← hsum]
  have hD : Digs 18446744073709551616 ((digs 18446744073709551616 n V).set (i / 8) (V / 18446744073709551616 ^ (i / 8) + c * 256 ^ (i % 8))) := (digs_Digs (by decide) _ _).set _ hcs
  exact digs_val' hD (by rw [List.length_set, digs_length])

theorem val_take_succ (B : Nat) (l : List Nat) (i : Nat) (h : i < l.length) : val B (l.take (i + 1)) = val B (l.take i) + B ^ i * l[i] := by
  rw [List.take_succ_eq_append_getElem h, val_append, List.length_take, Nat.min_eq_left (by omega)]
  simp [val]

end Go.Proofs.YtnbbehgcnodfbaaDoor
