/-
  Layer 4: any power, the inverse, the root.
-/
import Derived.Test.YtmebjoehmheknaaFldI
import Derived.Test.YtmebjoehmheknaaRet
namespace Go.Proofs.Ytmebjoehmheknaa
open Go.RowKit
set_option linter.unusedVariables false
set_option linter.unusedSimpArgs false

/-- A number's bits. -/
def bitOf (V i : Nat) : Bool := decide (V / 2 ^ i % 2 = 1)
theorem bitsVal_of {V : Nat} (hV : V < 2 ^ 256) : ∀ k, k ≤ 256 → bitsVal (bitOf V) k = V / 2 ^ (256 - k)
  | 0, _ => by rw [bitsVal, Nat.div_eq_of_lt hV]
  | k + 1, hk => by
    have ih := bitsVal_of hV k (by omega)
    have e : 256 - k = (255 - k) + 1 := by omega
    have e2 : 256 - (k + 1) = 255 - k := by omega
    rw [bitsVal, ih, e2, e, Nat.pow_succ, ← Nat.div_div_eq_div_mul]
    unfold bitOf
    generalize V / 2 ^ (255 - k) = x
    rcases Nat.mod_two_eq_zero_or_one x with h | h
    · rw [h, if_neg (by decide)]
      omega
    · rw [h, if_pos (by decide)]
      omega
theorem bitsVal_all {V : Nat} (hV : V < 2 ^ 256) : bitsVal (bitOf V) 256 = V := by
  rw [bitsVal_of hV 256 (Nat.le_refl _), Nat.sub_self, Nat.pow_zero, Nat.div_one]
theorem bits_congr {b c : Nat → Bool} (h : ∀ i, i < 256 → b i = c i) : ∀ k, k ≤ 256 → bitsVal b k = bitsVal c k
  | 0, _ => rfl
  | k + 1, hk => by rw [bitsVal, bitsVal, bits_congr h k (by omega), h (255 - k) (by omega)]

theorem bit_of_byte {b : List Nat} (db : Digs 256 b) (i : Nat) : b.getD (i / 8) 0 / 2 ^ (i % 8) % 2 = val 256 b / 2 ^ i % 2 := by
  rw [← val_div_mod db (by decide), show (256 : Nat) = 2 ^ 8 from rfl, ← Nat.pow_mul, mod_pow_div_mod (B := 2) _ 8 (i % 8) (Nat.mod_lt _ (by decide)), Nat.div_div_eq_div_mul, ← Nat.pow_add, show 8 * (i / 8) + i % 8 = i by omega]

/-- The bits of p - 2, and of (p - 5) / 8. -/
def invBit (i : Nat) : Bool := decide (i < 255) && decide (i ≠ 2) && decide (i ≠ 4)
def rootBit (i : Nat) : Bool := decide (i < 252) && decide (i ≠ 1)
theorem invBit_val : bitsVal invBit 256 = pN - 2 := by kernel_rfl
theorem rootBit_val : bitsVal rootBit 256 = (pN - 5) / 8 := by kernel_rfl

set_option maxHeartbeats 1000000 in
theorem invBit_any (i : Nat) (hi : i < 256) (w : World) : Gives 68 #[.int .i64 (i : Int)] w (.bool (invBit i)) := by
  by_cases h1 : i < 255
  · by_cases h2 : i = 2
    · subst h2
      have hE0 := Env.nil w
      go_enter Try.func68, Try.ntmps68
      repeat ((fail_if_success (with_reducible show wpList _ _ _ (List.cons _ _) _ _)); (fail_if_success (with_reducible show Code.wp _ (Code.region _ _ true) _ _ _)); go_step)
      refine wl_step (st_val rfl (v_moveC (.inr rfl)) ?_)
      simp only [Act.put, List.setIfInBounds_toArray, List.set_cons_zero, List.set_cons_succ]
      repeat ((fail_if_success (with_reducible show wpList _ _ _ (List.cons _ _) _ _)); (fail_if_success (with_reducible show Code.wp _ (Code.region _ _ true) _ _ _)); go_step)
      refine wl_step (st_val rfl (v_moveT (.inl rfl) rfl) ?_)
      simp only [Act.put, List.setIfInBounds_toArray, List.set_cons_zero, List.set_cons_succ]
      refine wl_step (st_val rfl (v_lss (n := 255) rfl rfl rfl) ?_)
      simp only [Act.put, List.setIfInBounds_toArray, List.set_cons_zero, List.set_cons_succ]
      refine wl_step (st_val rfl (v_moveT (.inl rfl) rfl) ?_)
      simp only [Act.put, List.setIfInBounds_toArray, List.set_cons_zero, List.set_cons_succ]
      refine wl_step (st_val rfl (v_moveT (.inl rfl) rfl) ?_)
      simp only [Act.put, List.setIfInBounds_toArray, List.set_cons_zero, List.set_cons_succ]
      refine wl_step (st_val rfl (v_neq (n := 2) rfl rfl rfl) ?_)
      simp only [Act.put, List.setIfInBounds_toArray, List.set_cons_zero, List.set_cons_succ]
      refine wl_step (st_val rfl (v_and rfl rfl (fun _ => rfl)) ?_)
      simp only [Act.put, List.setIfInBounds_toArray, List.set_cons_zero, List.set_cons_succ]
      refine wl_step (st_val rfl (v_moveT (.inl rfl) rfl) ?_)
      simp only [Act.put, List.setIfInBounds_toArray, List.set_cons_zero, List.set_cons_succ]
      refine wl_step (st_skip rfl ?_)
      simp only [Act.put, List.setIfInBounds_toArray, List.set_cons_zero, List.set_cons_succ]
      refine wl_step (st_skip rfl ?_)
      simp only [Act.put, List.setIfInBounds_toArray, List.set_cons_zero, List.set_cons_succ]
      refine wl_step (st_val rfl (v_andF rfl rfl) ?_)
      simp only [Act.put, List.setIfInBounds_toArray, List.set_cons_zero, List.set_cons_succ]
      refine wl_step (st_val rfl (v_moveT (.inr rfl) rfl) ?_)
      simp only [Act.put, List.setIfInBounds_toArray, List.set_cons_zero, List.set_cons_succ]
      repeat ((fail_if_success (with_reducible show wpList _ _ _ (List.cons _ _) _ _)); (fail_if_success (with_reducible show Code.wp _ (Code.region _ _ true) _ _ _)); go_step)
      go_returns
      exact ⟨rfl, hE0.below⟩
    · have hd1 := Lib.hid (decide_eq_true h1)
      have hd2 := Lib.hid (decide_eq_true (show i ≠ 2 from h2))
      have hE0 := Env.nil w
      go_enter Try.func68, Try.ntmps68
      repeat ((fail_if_success (with_reducible show wpList _ _ _ (List.cons _ _) _ _)); (fail_if_success (with_reducible show Code.wp _ (Code.region _ _ true) _ _ _)); go_step)
      refine wl_step (st_val rfl (v_moveC (.inr rfl)) ?_)
      simp only [Act.put, List.setIfInBounds_toArray, List.set_cons_zero, List.set_cons_succ]
      repeat ((fail_if_success (with_reducible show wpList _ _ _ (List.cons _ _) _ _)); (fail_if_success (with_reducible show Code.wp _ (Code.region _ _ true) _ _ _)); go_step)
      refine wl_step (st_val rfl (v_moveT (.inl rfl) rfl) ?_)
      simp only [Act.put, List.setIfInBounds_toArray, List.set_cons_zero, List.set_cons_succ]
      refine wl_step (st_val rfl (v_lss (n := 255) rfl rfl rfl) ?_)
      simp only [Act.put, List.setIfInBounds_toArray, List.set_cons_zero, List.set_cons_succ]
      rw [hd1.out]
      refine wl_step (st_val rfl (v_moveT (.inl rfl) rfl) ?_)
      simp only [Act.put, List.setIfInBounds_toArray, List.set_cons_zero, List.set_cons_succ]
      refine wl_step (st_val rfl (v_moveT (.inl rfl) rfl) ?_)
      simp only [Act.put, List.setIfInBounds_toArray, List.set_cons_zero, List.set_cons_succ]
      refine wl_step (st_val rfl (v_neq (n := 2) rfl rfl rfl) ?_)
      simp only [Act.put, List.setIfInBounds_toArray, List.set_cons_zero, List.set_cons_succ]
      rw [hd2.out]
      refine wl_step (st_val rfl (v_and rfl rfl (fun _ => rfl)) ?_)
      simp only [Act.put, List.setIfInBounds_toArray, List.set_cons_zero, List.set_cons_succ]
      refine wl_step (st_val rfl (v_moveT (.inl rfl) rfl) ?_)
      simp only [Act.put, List.setIfInBounds_toArray, List.set_cons_zero, List.set_cons_succ]
      refine wl_step (st_val rfl (v_moveT (.inl rfl) rfl) ?_)
      simp only [Act.put, List.setIfInBounds_toArray, List.set_cons_zero, List.set_cons_succ]
      refine wl_step (st_val rfl (v_neq (n := 4) rfl rfl rfl) ?_)
      simp only [Act.put, List.setIfInBounds_toArray, List.set_cons_zero, List.set_cons_succ]
      refine wl_step (st_val rfl (v_and rfl rfl (fun _ => rfl)) ?_)
      simp only [Act.put, List.setIfInBounds_toArray, List.set_cons_zero, List.set_cons_succ]
      refine wl_step (st_val rfl (v_moveT (.inr rfl) rfl) ?_)
      simp only [Act.put, List.setIfInBounds_toArray, List.set_cons_zero, List.set_cons_succ]
      repeat ((fail_if_success (with_reducible show wpList _ _ _ (List.cons _ _) _ _)); (fail_if_success (with_reducible show Code.wp _ (Code.region _ _ true) _ _ _)); go_step)
      go_returns
      exact ⟨by unfold invBit; rw [hd1.out, hd2.out]; rfl, hE0.below⟩
  · have hd1 := Lib.hid (decide_eq_false h1)
    have hE0 := Env.nil w
    go_enter Try.func68, Try.ntmps68
    repeat ((fail_if_success (with_reducible show wpList _ _ _ (List.cons _ _) _ _)); (fail_if_success (with_reducible show Code.wp _ (Code.region _ _ true) _ _ _)); go_step)
    refine wl_step (st_val rfl (v_moveC (.inr rfl)) ?_)
    simp only [Act.put, List.setIfInBounds_toArray, List.set_cons_zero, List.set_cons_succ]
    repeat ((fail_if_success (with_reducible show wpList _ _ _ (List.cons _ _) _ _)); (fail_if_success (with_reducible show Code.wp _ (Code.region _ _ true) _ _ _)); go_step)
    refine wl_step (st_val rfl (v_moveT (.inl rfl) rfl) ?_)
    simp only [Act.put, List.setIfInBounds_toArray, List.set_cons_zero, List.set_cons_succ]
    refine wl_step (st_val rfl (v_lss (n := 255) rfl rfl rfl) ?_)
    simp only [Act.put, List.setIfInBounds_toArray, List.set_cons_zero, List.set_cons_succ]
    rw [hd1.out]
    refine wl_step (st_val rfl (v_moveT (.inl rfl) rfl) ?_)
    simp only [Act.put, List.setIfInBounds_toArray, List.set_cons_zero, List.set_cons_succ]
    refine wl_step (st_skip rfl ?_)
    simp only [Act.put, List.setIfInBounds_toArray, List.set_cons_zero, List.set_cons_succ]
    refine wl_step (st_skip rfl ?_)
    simp only [Act.put, List.setIfInBounds_toArray, List.set_cons_zero, List.set_cons_succ]
    refine wl_step (st_val rfl (v_andF rfl rfl) ?_)
    simp only [Act.put, List.setIfInBounds_toArray, List.set_cons_zero, List.set_cons_succ]
    refine wl_step (st_val rfl (v_moveT (.inl rfl) rfl) ?_)
    simp only [Act.put, List.setIfInBounds_toArray, List.set_cons_zero, List.set_cons_succ]
    refine wl_step (st_skip rfl ?_)
    simp only [Act.put, List.setIfInBounds_toArray, List.set_cons_zero, List.set_cons_succ]
    refine wl_step (st_skip rfl ?_)
    simp only [Act.put, List.setIfInBounds_toArray, List.set_cons_zero, List.set_cons_succ]
    refine wl_step (st_val rfl (v_andF rfl rfl) ?_)
    simp only [Act.put, List.setIfInBounds_toArray, List.set_cons_zero, List.set_cons_succ]
    refine wl_step (st_val rfl (v_moveT (.inr rfl) rfl) ?_)
    simp only [Act.put, List.setIfInBounds_toArray, List.set_cons_zero, List.set_cons_succ]
    repeat ((fail_if_success (with_reducible show wpList _ _ _ (List.cons _ _) _ _)); (fail_if_success (with_reducible show Code.wp _ (Code.region _ _ true) _ _ _)); go_step)
    go_returns
    exact ⟨by unfold invBit; rw [hd1.out]; rfl, hE0.below⟩
set_option maxHeartbeats 1000000 in
theorem rootBit_any (i : Nat) (hi : i < 256) (w : World) : Gives 69 #[.int .i64 (i : Int)] w (.bool (rootBit i)) := by
  by_cases h1 : i < 252
  · have hd1 := Lib.hid (decide_eq_true h1)
    have hE0 := Env.nil w
    go_enter Try.func69, Try.ntmps69
    repeat ((fail_if_success (with_reducible show wpList _ _ _ (List.cons _ _) _ _)); (fail_if_success (with_reducible show Code.wp _ (Code.region _ _ true) _ _ _)); go_step)
    refine wl_step (st_val rfl (v_moveC (.inr rfl)) ?_)
    simp only [Act.put, List.setIfInBounds_toArray, List.set_cons_zero, List.set_cons_succ]
    repeat ((fail_if_success (with_reducible show wpList _ _ _ (List.cons _ _) _ _)); (fail_if_success (with_reducible show Code.wp _ (Code.region _ _ true) _ _ _)); go_step)
    refine wl_step (st_val rfl (v_moveT (.inl rfl) rfl) ?_)
    simp only [Act.put, List.setIfInBounds_toArray, List.set_cons_zero, List.set_cons_succ]
    refine wl_step (st_val rfl (v_lss (n := 252) rfl rfl rfl) ?_)
    simp only [Act.put, List.setIfInBounds_toArray, List.set_cons_zero, List.set_cons_succ]
    rw [hd1.out]
    refine wl_step (st_val rfl (v_moveT (.inl rfl) rfl) ?_)
    simp only [Act.put, List.setIfInBounds_toArray, List.set_cons_zero, List.set_cons_succ]
    refine wl_step (st_val rfl (v_moveT (.inl rfl) rfl) ?_)
    simp only [Act.put, List.setIfInBounds_toArray, List.set_cons_zero, List.set_cons_succ]
    refine wl_step (st_val rfl (v_neq (n := 1) rfl rfl rfl) ?_)
    simp only [Act.put, List.setIfInBounds_toArray, List.set_cons_zero, List.set_cons_succ]
    refine wl_step (st_val rfl (v_and rfl rfl (fun _ => rfl)) ?_)
    simp only [Act.put, List.setIfInBounds_toArray, List.set_cons_zero, List.set_cons_succ]
    refine wl_step (st_val rfl (v_moveT (.inr rfl) rfl) ?_)
    simp only [Act.put, List.setIfInBounds_toArray, List.set_cons_zero, List.set_cons_succ]
    repeat ((fail_if_success (with_reducible show wpList _ _ _ (List.cons _ _) _ _)); (fail_if_success (with_reducible show Code.wp _ (Code.region _ _ true) _ _ _)); go_step)
    go_returns
    exact ⟨by unfold rootBit; rw [hd1.out]; rfl, hE0.below⟩
  · have hd1 := Lib.hid (decide_eq_false h1)
    have hE0 := Env.nil w
    go_enter Try.func69, Try.ntmps69
    repeat ((fail_if_success (with_reducible show wpList _ _ _ (List.cons _ _) _ _)); (fail_if_success (with_reducible show Code.wp _ (Code.region _ _ true) _ _ _)); go_step)
    refine wl_step (st_val rfl (v_moveC (.inr rfl)) ?_)
    simp only [Act.put, List.setIfInBounds_toArray, List.set_cons_zero, List.set_cons_succ]
    repeat ((fail_if_success (with_reducible show wpList _ _ _ (List.cons _ _) _ _)); (fail_if_success (with_reducible show Code.wp _ (Code.region _ _ true) _ _ _)); go_step)
    refine wl_step (st_val rfl (v_moveT (.inl rfl) rfl) ?_)
    simp only [Act.put, List.setIfInBounds_toArray, List.set_cons_zero, List.set_cons_succ]
    refine wl_step (st_val rfl (v_lss (n := 252) rfl rfl rfl) ?_)
    simp only [Act.put, List.setIfInBounds_toArray, List.set_cons_zero, List.set_cons_succ]
    rw [hd1.out]
    refine wl_step (st_val rfl (v_moveT (.inl rfl) rfl) ?_)
    simp only [Act.put, List.setIfInBounds_toArray, List.set_cons_zero, List.set_cons_succ]
    refine wl_step (st_skip rfl ?_)
    simp only [Act.put, List.setIfInBounds_toArray, List.set_cons_zero, List.set_cons_succ]
    refine wl_step (st_skip rfl ?_)
    simp only [Act.put, List.setIfInBounds_toArray, List.set_cons_zero, List.set_cons_succ]
    refine wl_step (st_val rfl (v_andF rfl rfl) ?_)
    simp only [Act.put, List.setIfInBounds_toArray, List.set_cons_zero, List.set_cons_succ]
    refine wl_step (st_val rfl (v_moveT (.inr rfl) rfl) ?_)
    simp only [Act.put, List.setIfInBounds_toArray, List.set_cons_zero, List.set_cons_succ]
    repeat ((fail_if_success (with_reducible show wpList _ _ _ (List.cons _ _) _ _)); (fail_if_success (with_reducible show Code.wp _ (Code.region _ _ true) _ _ _)); go_step)
    go_returns
    exact ⟨by unfold rootBit; rw [hd1.out]; rfl, hE0.below⟩
theorem powFun_any {l : List Nat} (hl : Fe l) {f : Nat} {bit : Nat → Bool} (hc : ∀ (args : Array Value) (w : World), (callFunc f args).run Try.prog w = .ok (.enter f args) w) (hb : ∀ i : Nat, i < 256 → ∀ w, Gives f #[.int .i64 (i : Int)] w (.bool (bit i))) :
    ∃ c, Fe c ∧ fval c % pN = fval l ^ bitsVal bit 256 % pN ∧ ∀ w, Gives 67 #[elem l, .func (.func f) #[] #[]] w (elem c) := by
  obtain ⟨c, h1, h2, h3⟩ := power_any hl bit
  exact ⟨c, h1, h2, fun w => h3 _ (fun _ => True) (fun _ _ _ _ => trivial) ⟨f, #[], #[], rfl, hc, fun i w hi _ => hb i hi w⟩ w trivial⟩
set_option maxHeartbeats 1000000 in
theorem Invert_any {l : List Nat} (hl : Fe l) : ∃ c, Fe c ∧ fval c % pN = fval l ^ (pN - 2) % pN ∧ ∀ w, Gives 40 #[elem l] w (elem c) := by
  obtain ⟨c, h1, h2, h3⟩ := powFun_any hl Try.call68 invBit_any
  refine ⟨c, h1, by rw [h2, invBit_val], fun w => ?_⟩
  have Hp := Lib.hid h3
  have hl5 := hl.1
  have hc5 := h1.1
  clear h3 h2 h1 hl
  have hE0 := Env.nil w
  go_enter Try.func40, Try.ntmps40
  repeat ((fail_if_success (with_reducible show wpList _ _ _ (List.cons _ _) _ _)); (fail_if_success (with_reducible show Code.wp _ (Code.region _ _ true) _ _ _)); go_step)
  refine wl_step (st_boxA hE0 rfl rfl rfl ?_)
  intro g0 w1 hb1 hE1
  clear hE0
  simp only [Act.put, List.setIfInBounds_toArray, List.set_cons_zero, List.set_cons_succ]
  refine wl_step (st_alloc (zs := ints .u64 (List.replicate 5 0)) hE1 rfl rfl (fun w => by kernel_rfl) ?_)
  intro g1 w2 hb2 hE2
  clear hE1
  simp only [Act.put, List.setIfInBounds_toArray, List.set_cons_zero, List.set_cons_succ]
  repeat ((fail_if_success (with_reducible show wpList _ _ _ (List.cons _ _) _ _)); (fail_if_success (with_reducible show Code.wp _ (Code.region _ _ true) _ _ _)); go_step)
  refine wl_step (st_val rfl (v_load (i := 1) hE2 rfl rfl rfl Try.underlying26 rfl (sz_of (n := 5) (by kernel_rfl) (by first | (simp only [ints_size, digs_length, List.length_replicate, List.length_cons, List.length_nil]; done) | (simp only [ints_size, digs_length, List.length_replicate, List.length_cons, List.length_nil, List.length_set, List.length_append]; omega) | rfl))) ?_)
  simp only [Act.put, List.setIfInBounds_toArray, List.set_cons_zero, List.set_cons_succ]
  refine wl_step (st_gives hE2 rfl (run_call rfl Try.call67) (Hp.out _) ?_)
  intro w3 hb3 hE3
  clear hE2
  simp only [Act.put, List.setIfInBounds_toArray, List.set_cons_zero, List.set_cons_succ]
  refine wl_step (st_store (i := 0) hE3 rfl rfl rfl rfl rfl (sz_of (n := 5) (by kernel_rfl) (by first | (simp only [ints_size, digs_length, List.length_replicate, List.length_cons, List.length_nil]; done) | (simp only [ints_size, digs_length, List.length_replicate, List.length_cons, List.length_nil, List.length_set, List.length_append]; omega) | rfl)) (by first | (simp only [ints_size, digs_length, List.length_replicate, List.length_cons, List.length_nil]; done) | (simp only [ints_size, digs_length, List.length_replicate, List.length_cons, List.length_nil, List.length_set, List.length_append]; omega) | rfl) (by first | exact ints_one _ _ | decide | simp [*]) ?_)
  intro w4 hE4
  clear hE3
  simp only [List.set_cons_zero, List.set_cons_succ] at hE4
  simp only [Act.put, List.setIfInBounds_toArray, List.set_cons_zero, List.set_cons_succ]
  repeat ((fail_if_success (with_reducible show wpList _ _ _ (List.cons _ _) _ _)); (fail_if_success (with_reducible show Code.wp _ (Code.region _ _ true) _ _ _)); go_step)
  refine bodyPost_ret (results_cell_row rfl _ _ _ _ _ (0, 0) _ rfl (hE4.get (i := 0) rfl) Try.underlying26 rfl (sz_of (n := 5) (by kernel_rfl) (by first | (simp only [ints_size, digs_length, List.length_replicate, List.length_cons, List.length_nil]; done) | (simp only [ints_size, digs_length, List.length_replicate, List.length_cons, List.length_nil, List.length_set, List.length_append]; omega) | rfl))) rfl ⟨rfl, hE4.below⟩

/-- A root of -1, its bytes. -/
def unitB : List Nat := [0xb0, 0xa0, 0x0e, 0x4a, 0x27, 0x1b, 0xee, 0xc4, 0x78, 0xe4, 0x2f, 0xad, 0x06, 0x18, 0x43, 0x2f, 0xa7, 0xd7, 0xfb, 0x3d, 0x99, 0x00, 0x4d, 0x2b, 0x0b, 0xdf, 0xc1, 0x4f, 0x80, 0x24, 0x83, 0x2b]
def unitN : Nat := val 256 unitB
theorem unitN_lt : unitN < pN := of_decide_eq_true (by kernel_rfl)
set_option maxHeartbeats 1000000 in
theorem unit_any : ∃ c, Fe c ∧ fval c = unitN ∧ ∀ w, Gives 70 #[] w (elem c) := by
  refine ⟨_, digs_Fe unitN, by rw [digs_fval, Nat.mod_eq_of_lt (Nat.lt_trans unitN_lt (by decide))], fun w => ?_⟩
  have hO := Lib.hid (fun w => Of_any unitB rfl (by unfold Digs unitB; decide) w)
  have hdl : (digs 2251799813685248 5 unitN).length = 5 := digs_length _ _ _
  have hE0 := Env.nil w
  go_enter Try.func70, Try.ntmps70
  repeat ((fail_if_success (with_reducible show wpList _ _ _ (List.cons _ _) _ _)); (fail_if_success (with_reducible show Code.wp _ (Code.region _ _ true) _ _ _)); go_step)
  refine wl_step (st_alloc (zs := ints .u64 (List.replicate 5 0)) hE0 rfl rfl (fun w => by kernel_rfl) ?_)
  intro g0 w1 hb1 hE1
  clear hE0
  simp only [Act.put, List.setIfInBounds_toArray, List.set_cons_zero, List.set_cons_succ]
  repeat ((fail_if_success (with_reducible show wpList _ _ _ (List.cons _ _) _ _)); (fail_if_success (with_reducible show Code.wp _ (Code.region _ _ true) _ _ _)); go_step)
  refine wl_step (st_val rfl (v_built (k := .u8) (l := unitB) rfl (fun w => by kernel_rfl)) ?_)
  simp only [Act.put, List.setIfInBounds_toArray, List.set_cons_zero, List.set_cons_succ]
  refine wl_step (st_gives hE1 rfl (run_call rfl Try.call31) (hO.out _) ?_)
  intro w2 hb2 hE2
  clear hE1
  simp only [Act.put, List.setIfInBounds_toArray, List.set_cons_zero, List.set_cons_succ]
  refine wl_step (st_store (i := 0) hE2 rfl rfl rfl rfl rfl (sz_of (n := 5) (by kernel_rfl) (by first | (simp only [ints_size, digs_length, List.length_replicate, List.length_cons, List.length_nil]; done) | (simp only [ints_size, digs_length, List.length_replicate, List.length_cons, List.length_nil, List.length_set, List.length_append]; omega) | rfl)) (by first | (simp only [ints_size, digs_length, List.length_replicate, List.length_cons, List.length_nil]; done) | (simp only [ints_size, digs_length, List.length_replicate, List.length_cons, List.length_nil, List.length_set, List.length_append]; omega) | rfl) (by first | exact ints_one _ _ | decide | simp [*]) ?_)
  intro w3 hE3
  clear hE2
  simp only [List.set_cons_zero, List.set_cons_succ] at hE3
  simp only [Act.put, List.setIfInBounds_toArray, List.set_cons_zero, List.set_cons_succ]
  repeat ((fail_if_success (with_reducible show wpList _ _ _ (List.cons _ _) _ _)); (fail_if_success (with_reducible show Code.wp _ (Code.region _ _ true) _ _ _)); go_step)
  refine bodyPost_ret (results_cell_row rfl _ _ _ _ _ (0, 0) _ rfl (hE3.get (i := 0) rfl) Try.underlying26 rfl (sz_of (n := 5) (by kernel_rfl) (by first | (simp only [ints_size, digs_length, List.length_replicate, List.length_cons, List.length_nil]; done) | (simp only [ints_size, digs_length, List.length_replicate, List.length_cons, List.length_nil, List.length_set, List.length_append]; omega) | rfl))) rfl ⟨rfl, hE3.below⟩
end Go.Proofs.Ytmebjoehmheknaa
