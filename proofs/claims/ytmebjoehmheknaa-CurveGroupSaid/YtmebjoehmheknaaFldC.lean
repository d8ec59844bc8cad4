/-
  Layer 4: the product.
-/
import Derived.Test.YtmebjoehmheknaaFldB
namespace Go.Proofs.Ytmebjoehmheknaa
open Go.RowKit
set_option linter.unusedVariables false
set_option linter.unusedSimpArgs false

/-- A number of two words, the higher one first. -/
def wpair (a : Nat) : List Nat := [a / 18446744073709551616, a % 18446744073709551616]
theorem wpair_len (a : Nat) : (wpair a).length = 2 := rfl
theorem wpair_key (a P : Nat) (h : a + P < 340282366920938463463374607431768211456) :
    sumW (a / 18446744073709551616) (P / 18446744073709551616) (carW (a % 18446744073709551616) (P % 18446744073709551616) 0) = (a + P) / 18446744073709551616 ∧
    sumW (a % 18446744073709551616) (P % 18446744073709551616) 0 = (a + P) % 18446744073709551616 := by
  unfold sumW carW
  omega

theorem Mul64_gives (x y : Nat) (hx : x < 18446744073709551616) (hy : y < 18446744073709551616) (w : World) : Gives 65 #[.int .u64 x, .int .u64 y] w (.tuple #[.int .u64 (mulHi x y : Nat), .int .u64 (mulLo x y : Nat)]) :=
  (Mul64_any x y hx hy w).mono fun e w' ⟨h1, h2⟩ => ⟨h1, by subst h2; exact Below.refl _ _⟩

set_option maxHeartbeats 1000000 in
theorem plus_any (a x y : Nat) (ha : a + x * y < 340282366920938463463374607431768211456) (hx : x < 18446744073709551616) (hy : y < 18446744073709551616) (w : World) :
    Gives 63 #[.agg (ints .u64 (wpair a)), .int .u64 x, .int .u64 y] w (.agg (ints .u64 (wpair (a + x * y)))) := by
  have hk := Lib.hid (wpair_key a (x * y) ha)
  have hc : carW (a % 18446744073709551616) (mulLo x y) 0 ≤ 1 := carW_le (Nat.mod_lt _ (by decide)) (mulLo_lt x y) (by decide)
  have hal : a % 18446744073709551616 < 18446744073709551616 := Nat.mod_lt _ (by decide)
  have hah : a / 18446744073709551616 < 18446744073709551616 := by omega
  have hw := wpair_len a
  clear ha
  have hE0 := Env.nil w
  go_enter Try.func63, Try.ntmps63
  repeat ((fail_if_success (with_reducible show wpList _ _ _ (List.cons _ _) _ _)); (fail_if_success (with_reducible show Code.wp _ (Code.region _ _ true) _ _ _)); go_step)
  refine wl_step (st_boxA hE0 rfl rfl rfl ?_)
  intro g0 w1 hb1 hE1
  clear hE0
  simp only [Act.put, List.setIfInBounds_toArray, List.set_cons_zero, List.set_cons_succ]
  refine wl_step (st_alloc (zs := ints .u64 (List.replicate 2 0)) hE1 rfl rfl (fun w => by kernel_rfl) ?_)
  intro g1 w2 hb2 hE2
  clear hE1
  simp only [Act.put, List.setIfInBounds_toArray, List.set_cons_zero, List.set_cons_succ]
  repeat ((fail_if_success (with_reducible show wpList _ _ _ (List.cons _ _) _ _)); (fail_if_success (with_reducible show Code.wp _ (Code.region _ _ true) _ _ _)); go_step)
  refine wl_step (st_val rfl (v_moveT (.inl rfl) rfl) ?_)
  simp only [Act.put, List.setIfInBounds_toArray, List.set_cons_zero, List.set_cons_succ]
  refine wl_step (st_val rfl (v_moveT (.inl rfl) rfl) ?_)
  simp only [Act.put, List.setIfInBounds_toArray, List.set_cons_zero, List.set_cons_succ]
  refine wl_step (st_gives hE2 rfl (run_call rfl Try.call65) (Mul64_gives x y hx hy _) ?_)
  intro w3 hb3 hE3
  clear hE2
  simp only [Act.put, List.setIfInBounds_toArray, List.set_cons_zero, List.set_cons_succ]
  refine wl_step (st_val rfl (v_moveT (.inl rfl) rfl) ?_)
  simp only [Act.put, List.setIfInBounds_toArray, List.set_cons_zero, List.set_cons_succ]
  refine wl_step (st_val rfl (v_extract rfl rfl rfl) ?_)
  simp only [Act.put, List.setIfInBounds_toArray, List.set_cons_zero, List.set_cons_succ]
  refine wl_step (st_val rfl (v_extract rfl rfl rfl) ?_)
  simp only [Act.put, List.setIfInBounds_toArray, List.set_cons_zero, List.set_cons_succ]
  refine wl_step (st_val rfl (v_moveT (.inr rfl) rfl) ?_)
  simp only [Act.put, List.setIfInBounds_toArray, List.set_cons_zero, List.set_cons_succ]
  refine wl_step (st_val rfl (v_moveT (.inr rfl) rfl) ?_)
  simp only [Act.put, List.setIfInBounds_toArray, List.set_cons_zero, List.set_cons_succ]
  repeat ((fail_if_success (with_reducible show wpList _ _ _ (List.cons _ _) _ _)); (fail_if_success (with_reducible show Code.wp _ (Code.region _ _ true) _ _ _)); go_step)
  refine wl_step (st_val rfl (v_fieldB (s := 0) rfl rfl Try.underlying83 rfl (by kernel_rfl) rfl) ?_)
  simp only [Act.put, List.setIfInBounds_toArray, List.set_cons_zero, List.set_cons_succ]
  refine wl_step (st_val rfl (v_cell rfl rfl Try.underlying23 rfl (Env.cellv (i := 1) hE3 rfl (ints_get? _ _ _ (by first | assumption | omega | (simp; omega))))) ?_)
  simp only [Act.put, List.setIfInBounds_toArray, List.set_cons_zero, List.set_cons_succ]
  refine wl_step (st_val rfl (v_moveT (.inl rfl) rfl) ?_)
  simp only [Act.put, List.setIfInBounds_toArray, List.set_cons_zero, List.set_cons_succ]
  refine wl_step (st_val rfl (v_extern rfl (fun w9 => run_Add64 _ _ 0 (by decide) w9)) ?_)
  simp only [Act.put, List.setIfInBounds_toArray, List.set_cons_zero, List.set_cons_succ]
  refine wl_step (st_val rfl (v_moveT (.inl rfl) rfl) ?_)
  simp only [Act.put, List.setIfInBounds_toArray, List.set_cons_zero, List.set_cons_succ]
  refine wl_step (st_val rfl (v_extract rfl rfl rfl) ?_)
  simp only [Act.put, List.setIfInBounds_toArray, List.set_cons_zero, List.set_cons_succ]
  refine wl_step (st_val rfl (v_extract rfl rfl rfl) ?_)
  simp only [Act.put, List.setIfInBounds_toArray, List.set_cons_zero, List.set_cons_succ]
  refine wl_step (st_val rfl (v_moveT (.inr rfl) rfl) ?_)
  simp only [Act.put, List.setIfInBounds_toArray, List.set_cons_zero, List.set_cons_succ]
  refine wl_step (st_val rfl (v_moveT (.inr rfl) rfl) ?_)
  simp only [Act.put, List.setIfInBounds_toArray, List.set_cons_zero, List.set_cons_succ]
  repeat ((fail_if_success (with_reducible show wpList _ _ _ (List.cons _ _) _ _)); (fail_if_success (with_reducible show Code.wp _ (Code.region _ _ true) _ _ _)); go_step)
  refine wl_step (st_val rfl (v_field0 (s := 0) rfl rfl Try.underlying83 rfl (by kernel_rfl) rfl) ?_)
  simp only [Act.put, List.setIfInBounds_toArray, List.set_cons_zero, List.set_cons_succ]
  refine wl_step (st_val rfl (v_cell rfl rfl Try.underlying23 rfl (Env.cellv (i := 1) hE3 rfl (ints_get? _ _ _ (by first | assumption | omega | (simp; omega))))) ?_)
  simp only [Act.put, List.setIfInBounds_toArray, List.set_cons_zero, List.set_cons_succ]
  refine wl_step (st_val rfl (v_moveT (.inl rfl) rfl) ?_)
  simp only [Act.put, List.setIfInBounds_toArray, List.set_cons_zero, List.set_cons_succ]
  refine wl_step (st_val rfl (v_moveT (.inl rfl) rfl) ?_)
  simp only [Act.put, List.setIfInBounds_toArray, List.set_cons_zero, List.set_cons_succ]
  refine wl_step (st_val rfl (v_extern rfl (fun w9 => run_Add64 _ _ _ (by first | assumption | omega) w9)) ?_)
  simp only [Act.put, List.setIfInBounds_toArray, List.set_cons_zero, List.set_cons_succ]
  refine wl_step (st_val rfl (v_moveT (.inl rfl) rfl) ?_)
  simp only [Act.put, List.setIfInBounds_toArray, List.set_cons_zero, List.set_cons_succ]
  refine wl_step (st_val rfl (v_extract rfl rfl rfl) ?_)
  simp only [Act.put, List.setIfInBounds_toArray, List.set_cons_zero, List.set_cons_succ]
  refine wl_step (st_val rfl (v_extract rfl rfl rfl) ?_)
  simp only [Act.put, List.setIfInBounds_toArray, List.set_cons_zero, List.set_cons_succ]
  refine wl_step (st_val rfl (v_moveT (.inr rfl) rfl) ?_)
  simp only [Act.put, List.setIfInBounds_toArray, List.set_cons_zero, List.set_cons_succ]
  repeat ((fail_if_success (with_reducible show wpList _ _ _ (List.cons _ _) _ _)); (fail_if_success (with_reducible show Code.wp _ (Code.region _ _ true) _ _ _)); go_step)
  refine wl_step (st_val rfl (v_moveT (.inl rfl) rfl) ?_)
  simp only [Act.put, List.setIfInBounds_toArray, List.set_cons_zero, List.set_cons_succ]
  refine wl_step (st_val rfl (v_moveT (.inl rfl) rfl) ?_)
  simp only [Act.put, List.setIfInBounds_toArray, List.set_cons_zero, List.set_cons_succ]
  refine wl_step (st_val rfl (v_built (k := .u64) (l := [sumW (a / 18446744073709551616) (mulHi x y) (carW (a % 18446744073709551616) (mulLo x y) 0), sumW (a % 18446744073709551616) (mulLo x y) 0]) rfl (fun w => by kernel_rfl)) ?_)
  simp only [Act.put, List.setIfInBounds_toArray, List.set_cons_zero, List.set_cons_succ]
  refine wl_step (st_store (i := 0) hE3 rfl rfl rfl rfl rfl (sz_of (n := 2) (by kernel_rfl) (by first | (simp only [ints_size, digs_length, List.length_replicate, List.length_cons, List.length_nil]; done) | (simp only [ints_size, digs_length, List.length_replicate, List.length_cons, List.length_nil, List.length_set, List.length_append]; omega) | rfl)) (by first | (simp only [ints_size, digs_length, List.length_replicate, List.length_cons, List.length_nil]; done) | (simp only [ints_size, digs_length, List.length_replicate, List.length_cons, List.length_nil, List.length_set, List.length_append]; omega) | rfl) (by first | exact ints_one _ _ | decide | simp [*]) ?_)
  intro w4 hE4
  clear hE3
  simp only [List.set_cons_zero, List.set_cons_succ] at hE4
  simp only [Act.put, List.setIfInBounds_toArray, List.set_cons_zero, List.set_cons_succ]
  repeat ((fail_if_success (with_reducible show wpList _ _ _ (List.cons _ _) _ _)); (fail_if_success (with_reducible show Code.wp _ (Code.region _ _ true) _ _ _)); go_step)
  refine bodyPost_ret (results_cell_row rfl _ _ _ _ _ (0, 0) _ rfl (hE4.get (i := 0) rfl) Try.underlying83 rfl (sz_of (n := 2) (by kernel_rfl) (by first | (simp only [ints_size, digs_length, List.length_replicate, List.length_cons, List.length_nil]; done) | (simp only [ints_size, digs_length, List.length_replicate, List.length_cons, List.length_nil, List.length_set, List.length_append]; omega) | rfl))) rfl ⟨by rw [show wpair (a + x * y) = [_, _] from rfl, ← hk.out.1, ← hk.out.2]; rfl, hE4.below⟩

/-- Five numbers of two words. -/
def wcells (A : List Nat) : List Nat := A.flatMap wpair
theorem wcells_len (A : List Nat) : (wcells A).length = A.length * 2 := by
  induction A with
  | nil => rfl
  | cons a A ih => rw [wcells, List.flatMap_cons, List.length_append, ← wcells, ih, wpair_len, List.length_cons]; omega
theorem wcells_drop (A : List Nat) : ∀ j, (wcells A).drop (j * 2) = wcells (A.drop j) := by
  induction A with
  | nil => intro j; simp [wcells]
  | cons a A ih =>
    intro j
    cases j with
    | zero => rfl
    | succ j =>
      rw [show (j + 1) * 2 = (wpair a).length + j * 2 by rw [wpair_len]; omega, wcells, List.flatMap_cons, List.drop_length_add_append]
      exact ih j
theorem wcells_take (A : List Nat) : ∀ j, (wcells A).take (j * 2) = wcells (A.take j) := by
  induction A with
  | nil => intro j; simp [wcells]
  | cons a A ih =>
    intro j
    cases j with
    | zero => rfl
    | succ j =>
      rw [show (j + 1) * 2 = (wpair a).length + j * 2 by rw [wpair_len]; omega, wcells, List.flatMap_cons, List.take_length_add_append]
      rw [List.take_succ_cons, wcells, List.flatMap_cons]
      congr 1
      exact ih j
theorem wcells_part {A : List Nat} {j : Nat} (h : j < A.length) : ((wcells A).drop (j * 2)).take 2 = wpair (A.getD j 0) := by
  rw [wcells_drop, List.drop_eq_getElem_cons h, wcells, List.flatMap_cons, List.take_left' (wpair_len _)]
  simp [List.getD, h]
theorem wcells_put {A : List Nat} {j v : Nat} (h : j < A.length) : (wcells A).take (j * 2) ++ wpair v ++ (wcells A).drop (j * 2 + 2) = wcells (A.set j v) := by
  rw [show j * 2 + 2 = (j + 1) * 2 by omega, wcells_take, wcells_drop, List.set_eq_take_append_cons_drop, if_pos h]
  simp [wcells]
theorem wcells_hi {A : List Nat} {j : Nat} (h : j < A.length) : (wcells A).getD (j * 2) 0 = A.getD j 0 / 18446744073709551616 := by
  have e := congrArg (fun l => l.getD 0 0) (wcells_part h)
  simpa [wpair, List.getD, List.getElem?_take, List.getElem?_drop] using e
theorem wcells_lo {A : List Nat} {j : Nat} (h : j < A.length) : (wcells A).getD (j * 2 + 1) 0 = A.getD j 0 % 18446744073709551616 := by
  have e := congrArg (fun l => l.getD 1 0) (wcells_part h)
  simpa [wpair, List.getD, List.getElem?_take, List.getElem?_drop] using e

/-- What is added at a step, and where. -/
def mterm (l m : List Nat) (t : Nat) : Nat := l.getD (t / 5) 0 * (if 5 ≤ t / 5 + t % 5 then 19 * m.getD (t % 5) 0 else m.getD (t % 5) 0)
def mslot (t : Nat) : Nat := (t / 5 + t % 5) % 5
def prodAcc (l m : List Nat) : Nat → List Nat
  | 0 => List.replicate 5 0
  | t + 1 => (prodAcc l m t).set (mslot t) ((prodAcc l m t).getD (mslot t) 0 + mterm l m t)
theorem prodAcc_len (l m : List Nat) (t : Nat) : (prodAcc l m t).length = 5 := by
  induction t with
  | zero => rfl
  | succ t ih => rw [prodAcc, List.length_set, ih]
theorem mterm_lt {l m : List Nat} (hl : Fe l) (hm : Fe m) (t : Nat) : mterm l m t < 162259276829213363391578010288128 := by
  unfold mterm
  have h1 : l.getD (t / 5) 0 ≤ 2251799813685312 := Nat.le_of_lt (hl.getD _)
  have h2 : (if 5 ≤ t / 5 + t % 5 then 19 * m.getD (t % 5) 0 else m.getD (t % 5) 0) ≤ 42784196460020928 := by
    have := hm.getD (t % 5)
    split <;> omega
  exact Nat.lt_of_le_of_lt (Nat.mul_le_mul h1 h2) (by decide)
theorem prodAcc_lt {l m : List Nat} (hl : Fe l) (hm : Fe m) : ∀ t j, (prodAcc l m t).getD j 0 ≤ t * 162259276829213363391578010288128
  | 0, j => by
    rw [prodAcc, List.getD_eq_getElem?_getD, List.getElem?_replicate]
    split <;> simp
  | t + 1, j => by
    have ih := prodAcc_lt hl hm t
    have ht := mterm_lt hl hm t
    rw [prodAcc]
    by_cases hj : mslot t = j
    · subst hj
      rw [set_getD (by rw [prodAcc_len]; exact Nat.mod_lt _ (by decide))]
      have h := ih (mslot t)
      rw [Nat.add_mul, Nat.one_mul]
      exact Nat.add_le_add h (Nat.le_of_lt ht)
    · rw [List.getD_eq_getElem?_getD, List.getElem?_set_ne hj, ← List.getD_eq_getElem?_getD]
      have h := ih j
      rw [Nat.add_mul, Nat.one_mul]
      exact Nat.le_trans h (Nat.le_add_right _ _)
theorem step5 {I K : Nat} (hK : K < 5) : (5 * I + K) / 5 = I ∧ (5 * I + K) % 5 = K := by omega

theorem prod_fits {l m : List Nat} (hl : Fe l) (hm : Fe m) {t : Nat} (ht : t < 25) (j : Nat) : (prodAcc l m t).getD j 0 + mterm l m t < 340282366920938463463374607431768211456 := by
  have h1 := prodAcc_lt hl hm t j
  have h2 := mterm_lt hl hm t
  have h3 : t * 162259276829213363391578010288128 ≤ 25 * 162259276829213363391578010288128 := Nat.mul_le_mul_right _ (by omega)
  exact Nat.lt_of_le_of_lt (Nat.add_le_add (Nat.le_trans h1 h3) (Nat.le_of_lt h2)) (by decide)

/-- The limbs' bits above, and those that stay. -/
def overF (A : List Nat) (i : Nat) : Nat := val 2251799813685248 (A.take i) / 2251799813685248 ^ i
def outF (A : List Nat) (i : Nat) : Nat := val 2251799813685248 A / 2251799813685248 ^ i % 2251799813685248
theorem over_step {A : List Nat} {i : Nat} (h : i < A.length) : overF A (i + 1) = (A.getD i 0 + overF A i) / 2251799813685248 ∧ outF A i = (A.getD i 0 + overF A i) % 2251799813685248 := by
  have hp : 0 < 2251799813685248 ^ i := Nat.pow_pos (by decide)
  have e1 : val 2251799813685248 (A.take (i + 1)) / 2251799813685248 ^ i = overF A i + A.getD i 0 := by
    rw [val_take_succ _ _ _ h, overF, Nat.add_mul_div_left _ _ hp]
    simp [List.getD, h]
  constructor
  · rw [overF, Nat.pow_succ, ← Nat.div_div_eq_div_mul, e1, Nat.add_comm]
  · have e2 := val_take_drop 2251799813685248 A (i + 1) (by omega)
    rw [outF, e2, Nat.pow_succ, Nat.mul_assoc, Nat.add_mul_div_left _ _ hp, e1, Nat.add_mul_mod_self_left, Nat.add_comm]
theorem over_zero (A : List Nat) : overF A 0 = 0 := by simp [overF, val]
theorem over_lt {A : List Nat} (h : ∀ j, A.getD j 0 < 4056481920730334084789450257203200 + 1) : ∀ i, i ≤ A.length → overF A i < 4611686018427387904
  | 0, _ => by rw [over_zero]; decide
  | i + 1, hi => by
    rw [(over_step (by omega)).1]
    have h1 := h i
    have h2 := over_lt h i (by omega)
    rw [Nat.div_lt_iff_lt_mul (by decide)]
    exact Nat.lt_of_lt_of_le (Nat.add_lt_add h1 h2) (by decide)

/-- The limbs ahead of the last carry. -/
def mulOut (A : List Nat) : List Nat :=
  ((((List.range 5).map (outF A)).set 0 ((overF A 5 * 19 + outF A 0) % 2251799813685248)).set 1 (outF A 1 + (overF A 5 * 19 + outF A 0) / 2251799813685248))
theorem mulOut_eq (A : List Nat) : mulOut A = [(overF A 5 * 19 + outF A 0) % 2251799813685248, outF A 1 + (overF A 5 * 19 + outF A 0) / 2251799813685248, outF A 2, outF A 3, outF A 4] := rfl
theorem mulOut_key (o a b c d e : Nat) : ((o * 19 + a) % 2251799813685248 + 2251799813685248 * (b + (o * 19 + a) / 2251799813685248 + 2251799813685248 * (c + 2251799813685248 * (d + 2251799813685248 * e)))) + pN * o =
    (a + 2251799813685248 * (b + 2251799813685248 * (c + 2251799813685248 * (d + 2251799813685248 * e)))) + 2251799813685248 ^ 5 * o := by
  have h := Nat.div_add_mod (o * 19 + a) 2251799813685248
  generalize (o * 19 + a) / 2251799813685248 = q at *
  generalize (o * 19 + a) % 2251799813685248 = r at *
  have e1 : pN * o + 19 * o = 2251799813685248 ^ 5 * o := by
    rw [← Nat.add_mul]
    rfl
  omega
theorem mulOut_val {A : List Nat} (h : A.length = 5) : fval (mulOut A) % pN = fval A % pN := by
  have hd : digs 2251799813685248 5 (fval A) = [outF A 0, outF A 1, outF A 2, outF A 3, outF A 4] := by
    simp only [digs, outF, Nat.pow_zero, Nat.div_one, Nat.div_div_eq_div_mul]
  have hv := val_digs 2251799813685248 5 (fval A)
  rw [hd] at hv
  have hover : overF A 5 = fval A / 2251799813685248 ^ 5 := by
    rw [overF, ← h, List.take_length]
  have h1 := Nat.div_add_mod (fval A) (2251799813685248 ^ 5)
  rw [← hover, ← hv] at h1
  have hk := mulOut_key (overF A 5) (outF A 0) (outF A 1) (outF A 2) (outF A 3) (outF A 4)
  rw [mulOut_eq, fval5]
  rw [← fval5 (outF A 0), Nat.add_comm (fval _)] at hk
  have h2 : fval A = fval [(overF A 5 * 19 + outF A 0) % 2251799813685248, outF A 1 + (overF A 5 * 19 + outF A 0) / 2251799813685248, outF A 2, outF A 3, outF A 4] + pN * overF A 5 := by
    rw [fval5, hk]
    exact h1.symm
  rw [h2, Nat.add_mul_mod_self_left, fval5]
theorem outF_lt (A : List Nat) (i : Nat) : outF A i < 2251799813685248 := Nat.mod_lt _ (by decide)
theorem mulOut_lt {A : List Nat} (ho : overF A 5 < 4611686018427387904) : ∀ x ∈ mulOut A, x < 9007199254740992 := by
  intro x hx
  rw [mulOut_eq] at hx
  have h0 := outF_lt A 0
  have h1 := outF_lt A 1
  have h2 := outF_lt A 2
  have h3 := outF_lt A 3
  have h4 := outF_lt A 4
  simp only [List.mem_cons, List.not_mem_nil, or_false] at hx
  rcases hx with rfl | rfl | rfl | rfl | rfl <;> omega

/-- The sum of what is added. -/
def prodSum (l m : List Nat) : Nat → Nat
  | 0 => 0
  | t + 1 => prodSum l m t + 2251799813685248 ^ mslot t * mterm l m t
theorem prodSum_eq (l m : List Nat) : ∀ t, fval (prodAcc l m t) = prodSum l m t
  | 0 => val_replicate _ _
  | t + 1 => by
    have hs : mslot t < (prodAcc l m t).length := by rw [prodAcc_len]; exact Nat.mod_lt _ (by decide)
    have h := val_set (B := 2251799813685248) (prodAcc l m t) (mslot t) ((prodAcc l m t).getD (mslot t) 0 + mterm l m t) hs
    rw [prodAcc, prodSum, ← prodSum_eq l m t]
    have e : (prodAcc l m t)[mslot t] = (prodAcc l m t).getD (mslot t) 0 := by simp [List.getD, hs]
    rw [e, Nat.mul_add] at h
    show val 2251799813685248 _ = val 2251799813685248 _ + _
    omega
theorem prod_poly (a b c d e a' b' c' d' e' : Nat) : prodSum [a, b, c, d, e] [a', b', c', d', e'] 25 =
    2251799813685248 ^ 0 * (a * a' + b * (19 * e') + c * (19 * d') + d * (19 * c') + e * (19 * b')) + 2251799813685248 ^ 1 * (a * b' + b * a' + c * (19 * e') + d * (19 * d') + e * (19 * c')) +
    2251799813685248 ^ 2 * (a * c' + b * b' + c * a' + d * (19 * e') + e * (19 * d')) + 2251799813685248 ^ 3 * (a * d' + b * c' + c * b' + d * a' + e * (19 * e')) + 2251799813685248 ^ 4 * (a * e' + b * d' + c * c' + d * b' + e * a') := by
  have h : prodSum [a, b, c, d, e] [a', b', c', d', e'] 25 =
    0 + 2251799813685248 ^ 0 * (a * a') + 2251799813685248 ^ 1 * (a * b') + 2251799813685248 ^ 2 * (a * c') + 2251799813685248 ^ 3 * (a * d') + 2251799813685248 ^ 4 * (a * e') +
    2251799813685248 ^ 1 * (b * a') + 2251799813685248 ^ 2 * (b * b') + 2251799813685248 ^ 3 * (b * c') + 2251799813685248 ^ 4 * (b * d') + 2251799813685248 ^ 0 * (b * (19 * e')) +
    2251799813685248 ^ 2 * (c * a') + 2251799813685248 ^ 3 * (c * b') + 2251799813685248 ^ 4 * (c * c') + 2251799813685248 ^ 0 * (c * (19 * d')) + 2251799813685248 ^ 1 * (c * (19 * e')) +
    2251799813685248 ^ 3 * (d * a') + 2251799813685248 ^ 4 * (d * b') + 2251799813685248 ^ 0 * (d * (19 * c')) + 2251799813685248 ^ 1 * (d * (19 * d')) + 2251799813685248 ^ 2 * (d * (19 * e')) +
    2251799813685248 ^ 4 * (e * a') + 2251799813685248 ^ 0 * (e * (19 * b')) + 2251799813685248 ^ 1 * (e * (19 * c')) + 2251799813685248 ^ 2 * (e * (19 * d')) + 2251799813685248 ^ 3 * (e * (19 * e')) := rfl
  rw [h]
  simp only [Nat.mul_add]
  omega
theorem prod_val {l m : List Nat} (hl : l.length = 5) (hm : m.length = 5) : fval (prodAcc l m 25) % pN = fval l * fval m % pN := by
  obtain ⟨a, b, c, d, e, rfl⟩ := five hl
  obtain ⟨a', b', c', d', e', rfl⟩ := five hm
  have h : fval [a, b, c, d, e] * fval [a', b', c', d', e'] = fval (prodAcc [a, b, c, d, e] [a', b', c', d', e'] 25) + pN * (b * e' + c * d' + d * c' + e * b' + 2251799813685248 * (c * e' + d * d' + e * c' + 2251799813685248 * (d * e' + e * d' + 2251799813685248 * (e * e')))) := by
    rw [prodSum_eq, prod_poly, fval5, fval5]
    unfold pN
    grind
  rw [h, Nat.add_mul_mod_self_left]
end Go.Proofs.Ytmebjoehmheknaa
