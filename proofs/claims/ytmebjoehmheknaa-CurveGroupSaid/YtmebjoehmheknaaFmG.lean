/-
  Layer 4, the document's answer: the power, the inverse.
-/
import Derived.Test.YtmebjoehmheknaaFmF
namespace Go.Proofs.Ytmebjoehmheknaa
open Go.RowKit
set_option linter.unusedVariables false
set_option linter.unusedSimpArgs false

theorem bit_of {x r : Nat} (hr : r < 8) : x % 256 / 2 ^ r % 2 = x / 2 ^ r % 2 := by
  rcases (show r = 0 ∨ r = 1 ∨ r = 2 ∨ r = 3 ∨ r = 4 ∨ r = 5 ∨ r = 6 ∨ r = 7 by omega) with rfl | rfl | rfl | rfl | rfl | rfl | rfl | rfl
  · show x % 256 / 1 % 2 = x / 1 % 2
    omega
  · show x % 256 / 2 % 2 = x / 2 % 2
    omega
  · show x % 256 / 4 % 2 = x / 4 % 2
    omega
  · show x % 256 / 8 % 2 = x / 8 % 2
    omega
  · show x % 256 / 16 % 2 = x / 16 % 2
    omega
  · show x % 256 / 32 % 2 = x / 32 % 2
    omega
  · show x % 256 / 64 % 2 = x / 64 % 2
    omega
  · show x % 256 / 128 % 2 = x / 128 % 2
    omega
theorem pow8 (K : Nat) : 2 ^ K = 256 ^ (K / 8) * 2 ^ (K % 8) := by
  have e : (256 : Nat) = 2 ^ 8 := by decide
  rw [e, ← Nat.pow_mul, ← Nat.pow_add, Nat.div_add_mod]
theorem bit_digit (E K : Nat) : E / 256 ^ (K / 8) % 256 / 2 ^ (K % 8) % 2 = E / 2 ^ K % 2 := by
  rw [bit_of (Nat.mod_lt _ (by decide)), Nat.div_div_eq_div_mul, ← pow8]
theorem pow_bit1 {x E K A B : Nat} (hA : A = x ^ (E % 2 ^ K) % pN) (hB : B = x ^ 2 ^ K % pN) (h : E / 2 ^ K % 2 = 1) : A * B % pN = x ^ (E % 2 ^ (K + 1)) % pN := by
  rw [hA, hB, ← Nat.mul_mod, ← Nat.pow_add, Nat.pow_succ 2 K, Nat.mod_mul, h, Nat.mul_one]
theorem pow_bit0 {x E K A : Nat} (hA : A = x ^ (E % 2 ^ K) % pN) (h : ¬ E / 2 ^ K % 2 = 1) : A = x ^ (E % 2 ^ (K + 1)) % pN := by
  have h0 : E / 2 ^ K % 2 = 0 := by omega
  rw [hA, Nat.pow_succ 2 K, Nat.mod_mul, h0, Nat.mul_zero, Nat.add_zero]
theorem pow_base {x K B : Nat} (hB : B = x ^ 2 ^ K % pN) : B * B % pN = x ^ 2 ^ (K + 1) % pN := by
  rw [hB, ← Nat.mul_mod, ← Nat.pow_add, Nat.pow_succ 2 K, Nat.mul_two]
theorem pN_lt : pN < big8 := by decide
theorem mod_big (n : Nat) : n % pN < big8 := Nat.lt_trans (Nat.mod_lt _ (by decide)) pN_lt

set_option maxHeartbeats 8000000 in
theorem rPow_any {x : Nat} {e : List Nat} (hx : x < pN) (he : Digs 256 e) (hlen : e.length = 32) (w : World) : Gives 72 #[nm x, .agg (ints .u8 e)] w (nm (x ^ val 256 e % pN)) := by
  have hx8 := nm_len x
  have hl1 := nm_len 1
  obtain ⟨E, hE⟩ : ∃ E, val 256 e = E := ⟨_, rfl⟩
  have HgE := Lib.hid (fun i => hE ▸ (val_div_mod he (by decide) i).symm)
  have hE256 : E < 2 ^ 256 := by
    have := val_lt he
    rw [hlen, hE] at this
    exact this
  have HE := Lib.hid hE256
  rw [hE]
  have HxB : Hid (x = x ^ 2 ^ 0 % pN) := Lib.hid (by rw [Nat.pow_zero, Nat.pow_one, Nat.mod_eq_of_lt hx])
  have HA0 : Hid (1 = x ^ (E % 2 ^ 0) % pN) := Lib.hid (by rw [Nat.pow_zero, Nat.mod_one, Nat.pow_zero]; decide)
  have Hx := Lib.hid (Nat.lt_trans hx pN_lt)
  clear hx he hE hE256
  have hE0 := Env.nil w
  go_enter Try.func72, Try.ntmps72
  repeat ((fail_if_success (with_reducible show wpList _ _ _ (List.cons _ _) _ _)); (fail_if_success (with_reducible show Code.wp _ (Code.region _ _ true) _ _ _)); go_step)
  refine wl_step (st_boxA hE0 rfl rfl rfl ?_)
  intro g0 w1 hb1 hE1
  clear hE0
  simp only [Act.put, List.setIfInBounds_toArray, List.set_cons_zero, List.set_cons_succ]
  refine wl_step (st_boxA hE1 rfl rfl rfl ?_)
  intro g1 w2 hb2 hE2
  clear hE1
  simp only [Act.put, List.setIfInBounds_toArray, List.set_cons_zero, List.set_cons_succ]
  refine wl_step (st_alloc (zs := ints .u32 (List.replicate 8 0)) hE2 rfl rfl (fun w => by kernel_rfl) ?_)
  intro g2 w3 hb3 hE3
  clear hE2
  simp only [Act.put, List.setIfInBounds_toArray, List.set_cons_zero, List.set_cons_succ]
  repeat ((fail_if_success (with_reducible show wpList _ _ _ (List.cons _ _) _ _)); (fail_if_success (with_reducible show Code.wp _ (Code.region _ _ true) _ _ _)); go_step)
  refine wl_step (st_gives hE3 rfl (run_call rfl Try.call53) (rSmall_any (n := 1) (by decide) _) ?_)
  intro w4 hb4 hE4
  clear hE3
  simp only [Act.put, List.setIfInBounds_toArray, List.set_cons_zero, List.set_cons_succ]
  refine wl_step (st_alloc (zs := ints .u32 (List.replicate 8 0)) hE4 rfl rfl (fun w => by kernel_rfl) ?_)
  intro g3 w5 hb5 hE5
  clear hE4
  simp only [Act.put, List.setIfInBounds_toArray, List.set_cons_zero, List.set_cons_succ]
  refine wl_step (st_store (i := 0) hE5 rfl rfl rfl rfl rfl (sz_of (n := 8) (by kernel_rfl) (by first | (simp only [ints_size, digs_length, List.length_replicate, List.length_cons, List.length_nil]; done) | (simp only [ints_size, digs_length, List.length_replicate, List.length_cons, List.length_nil, List.length_set, List.length_append]; omega) | rfl)) (by first | (simp only [ints_size, digs_length, List.length_replicate, List.length_cons, List.length_nil]; done) | (simp only [ints_size, digs_length, List.length_replicate, List.length_cons, List.length_nil, List.length_set, List.length_append]; omega) | rfl) (by first | exact ints_one _ _ | decide | simp [*]) ?_)
  intro w6 hE6
  clear hE5
  simp only [List.set_cons_zero, List.set_cons_succ] at hE6
  simp only [Act.put, List.setIfInBounds_toArray, List.set_cons_zero, List.set_cons_succ]
  repeat ((fail_if_success (with_reducible show wpList _ _ _ (List.cons _ _) _ _)); (fail_if_success (with_reducible show Code.wp _ (Code.region _ _ true) _ _ _)); go_step)
  refine wl_step (st_val rfl (v_moveC (.inr rfl)) ?_)
  simp only [Act.put, List.setIfInBounds_toArray, List.set_cons_zero, List.set_cons_succ]
  go_wp2
  go_loopw [6] (fun i wr => ∃ (K A B : Nat), K ≤ 256 ∧ i = .int .i64 K ∧ Hid (A = x ^ (E % 2 ^ K) % pN) ∧ Hid (B = x ^ 2 ^ K % pN) ∧ Hid (A < big8) ∧ Hid (B < big8) ∧ Env w [⟨g3, 43, ints .u32 (digs 4294967296 8 A)⟩, ⟨g2, 43, ints .u32 (List.replicate 8 0)⟩, ⟨g1, 22, ints .u8 e⟩, ⟨g0, 43, ints .u32 (digs 4294967296 8 B)⟩] wr) (fun i _ => 256 - (intOf i).toNat)
  case atStart => exact ⟨0, 1, x, Nat.zero_le _, rfl, HA0, HxB, Lib.hid (by decide), Hx, hE6⟩
  case round =>
    clear hE6
    obtain ⟨K, A, B, hK, rfl, hA, hB, hAl, hBl, hE0⟩ := hrel
    have hA8 := nm_len A
    have hB8 := nm_len B
    by_cases hK8 : K < 256
    · have hg := HgE.out (K / 8)
      obtain ⟨c, hc⟩ : ∃ c, E / 256 ^ (K / 8) % 256 = c := ⟨_, rfl⟩
      have hb := bit_digit E K
      rw [hc] at hg hb
      have hc8 : c < 256 := hc ▸ Nat.mod_lt _ (by decide)
      have Hg := Lib.hid hg
      have hM1 := Lib.hid (fun w => rMul_any hAl.out hBl.out w)
      have hM2 := Lib.hid (fun w => rMul_any hBl.out hBl.out w)
      have hl2 := nm_len (A * B % pN)
      have hl3 := nm_len (B * B % pN)
      have Hb := Lib.hid hb
      clear hg hc hb
      by_cases hbit : E / 2 ^ K % 2 = 1
      · have Hbit := Lib.hid (by rw [Hb.out]; exact decide_eq_true hbit : decide (c / 2 ^ (K % 8) % 2 = 1) = true)
        have hA2 := Lib.hid (pow_bit1 hA.out hB.out hbit)
        have hB2 := Lib.hid (pow_base hB.out)
        clear hbit
        repeat ((fail_if_success (with_reducible show wpList _ _ _ (List.cons _ _) _ _)); (fail_if_success (with_reducible show Code.wp _ (Code.region _ _ true) _ _ _)); go_step)
        refine wl_step (st_val rfl (v_moveT (.inl rfl) rfl) ?_)
        simp only [Act.put, List.setIfInBounds_toArray, List.set_cons_zero, List.set_cons_succ]
        refine wl_step (st_val rfl (v_lss (n := 256) rfl rfl rfl) ?_)
        simp only [Act.put, List.setIfInBounds_toArray, List.set_cons_zero, List.set_cons_succ]
        repeat ((fail_if_success (with_reducible show wpList _ _ _ (List.cons _ _) _ _)); (fail_if_success (with_reducible show Code.wp _ (Code.region _ _ true) _ _ _)); go_step)
        refine wl_step (st_val rfl (v_moveT (.inl rfl) rfl) ?_)
        simp only [Act.put, List.setIfInBounds_toArray, List.set_cons_zero, List.set_cons_succ]
        refine wl_step (st_val rfl (v_quo (n := 8) rfl rfl rfl (by omega) (w_i64 (by omega))) ?_)
        simp only [Act.put, List.setIfInBounds_toArray, List.set_cons_zero, List.set_cons_succ]
        refine wl_step (st_val rfl (v_indexA0 rfl rfl rfl Try.underlying22 (by kernel_rfl) (by first | assumption | omega)) ?_)
        simp only [Act.put, List.setIfInBounds_toArray, List.set_cons_zero, List.set_cons_succ]
        refine wl_step (st_val rfl (v_cell rfl rfl Try.underlying5 rfl (Env.cellv (i := 2) hE0 rfl (ints_get? _ _ _ (by first | assumption | omega | (simp; done) | (simp; omega))))) ?_)
        simp only [Act.put, List.setIfInBounds_toArray, List.set_cons_zero, List.set_cons_succ]
        rw [Hg.out]
        refine wl_step (st_val rfl (v_moveT (.inl rfl) rfl) ?_)
        simp only [Act.put, List.setIfInBounds_toArray, List.set_cons_zero, List.set_cons_succ]
        refine wl_step (st_val rfl (v_rem (n := 8) rfl rfl rfl (by omega)) ?_)
        simp only [Act.put, List.setIfInBounds_toArray, List.set_cons_zero, List.set_cons_succ]
        refine wl_step (st_val rfl (v_shr rfl rfl rfl (by simp only [IntKind.bits]; omega)) ?_)
        simp only [Act.put, List.setIfInBounds_toArray, List.set_cons_zero, List.set_cons_succ]
        refine wl_step (st_val rfl (v_rem (n := 2) rfl rfl rfl (by omega)) ?_)
        simp only [Act.put, List.setIfInBounds_toArray, List.set_cons_zero, List.set_cons_succ]
        refine wl_step (st_val rfl (v_eql (n := 1) rfl rfl rfl) ?_)
        simp only [Act.put, List.setIfInBounds_toArray, List.set_cons_zero, List.set_cons_succ]
        rw [Hbit.out]
        repeat ((fail_if_success (with_reducible show wpList _ _ _ (List.cons _ _) _ _)); (fail_if_success (with_reducible show Code.wp _ (Code.region _ _ true) _ _ _)); (fail_if_success (with_reducible show Code.wp _ (Code.cond _ _ _) _ _ _)); go_step)
        refine wp_cond_true (by first | rfl | exact congrArg Value.bool (decide_eq_true (by omega))) ?_
        skip
        repeat ((fail_if_success (with_reducible show wpList _ _ _ (List.cons _ _) _ _)); (fail_if_success (with_reducible show Code.wp _ (Code.region _ _ true) _ _ _)); go_step)
        refine wl_step (st_val rfl (v_load (i := 0) hE0 rfl rfl rfl Try.underlying43 rfl (sz_of (n := 8) (by kernel_rfl) (by first | (simp only [ints_size, digs_length, List.length_replicate, List.length_cons, List.length_nil]; done) | (simp only [ints_size, digs_length, List.length_replicate, List.length_cons, List.length_nil, List.length_set, List.length_append]; omega) | rfl))) ?_)
        simp only [Act.put, List.setIfInBounds_toArray, List.set_cons_zero, List.set_cons_succ]
        refine wl_step (st_val rfl (v_load (i := 3) hE0 rfl rfl rfl Try.underlying43 rfl (sz_of (n := 8) (by kernel_rfl) (by first | (simp only [ints_size, digs_length, List.length_replicate, List.length_cons, List.length_nil]; done) | (simp only [ints_size, digs_length, List.length_replicate, List.length_cons, List.length_nil, List.length_set, List.length_append]; omega) | rfl))) ?_)
        simp only [Act.put, List.setIfInBounds_toArray, List.set_cons_zero, List.set_cons_succ]
        refine wl_step (st_gives hE0 rfl (run_call rfl Try.call54) (hM1.out _) ?_)
        intro w1 hb1 hE1
        clear hE0
        simp only [Act.put, List.setIfInBounds_toArray, List.set_cons_zero, List.set_cons_succ]
        refine wl_step (st_store (i := 0) hE1 rfl rfl rfl rfl rfl (sz_of (n := 8) (by kernel_rfl) (by first | (simp only [ints_size, digs_length, List.length_replicate, List.length_cons, List.length_nil]; done) | (simp only [ints_size, digs_length, List.length_replicate, List.length_cons, List.length_nil, List.length_set, List.length_append]; omega) | rfl)) (by first | (simp only [ints_size, digs_length, List.length_replicate, List.length_cons, List.length_nil]; done) | (simp only [ints_size, digs_length, List.length_replicate, List.length_cons, List.length_nil, List.length_set, List.length_append]; omega) | rfl) (by first | exact ints_one _ _ | decide | simp [*]) ?_)
        intro w2 hE2
        clear hE1
        simp only [List.set_cons_zero, List.set_cons_succ] at hE2
        simp only [Act.put, List.setIfInBounds_toArray, List.set_cons_zero, List.set_cons_succ]
        repeat ((fail_if_success (with_reducible show wpList _ _ _ (List.cons _ _) _ _)); (fail_if_success (with_reducible show Code.wp _ (Code.region _ _ true) _ _ _)); go_step)
        refine wl_step (st_val rfl (v_load (i := 3) hE2 rfl rfl rfl Try.underlying43 rfl (sz_of (n := 8) (by kernel_rfl) (by first | (simp only [ints_size, digs_length, List.length_replicate, List.length_cons, List.length_nil]; done) | (simp only [ints_size, digs_length, List.length_replicate, List.length_cons, List.length_nil, List.length_set, List.length_append]; omega) | rfl))) ?_)
        simp only [Act.put, List.setIfInBounds_toArray, List.set_cons_zero, List.set_cons_succ]
        refine wl_step (st_val rfl (v_load (i := 3) hE2 rfl rfl rfl Try.underlying43 rfl (sz_of (n := 8) (by kernel_rfl) (by first | (simp only [ints_size, digs_length, List.length_replicate, List.length_cons, List.length_nil]; done) | (simp only [ints_size, digs_length, List.length_replicate, List.length_cons, List.length_nil, List.length_set, List.length_append]; omega) | rfl))) ?_)
        simp only [Act.put, List.setIfInBounds_toArray, List.set_cons_zero, List.set_cons_succ]
        refine wl_step (st_gives hE2 rfl (run_call rfl Try.call54) (hM2.out _) ?_)
        intro w3 hb3 hE3
        clear hE2
        simp only [Act.put, List.setIfInBounds_toArray, List.set_cons_zero, List.set_cons_succ]
        refine wl_step (st_store (i := 3) hE3 rfl rfl rfl rfl rfl (sz_of (n := 8) (by kernel_rfl) (by first | (simp only [ints_size, digs_length, List.length_replicate, List.length_cons, List.length_nil]; done) | (simp only [ints_size, digs_length, List.length_replicate, List.length_cons, List.length_nil, List.length_set, List.length_append]; omega) | rfl)) (by first | (simp only [ints_size, digs_length, List.length_replicate, List.length_cons, List.length_nil]; done) | (simp only [ints_size, digs_length, List.length_replicate, List.length_cons, List.length_nil, List.length_set, List.length_append]; omega) | rfl) (by first | exact ints_one _ _ | decide | simp [*]) ?_)
        intro w4 hE4
        clear hE3
        simp only [List.set_cons_zero, List.set_cons_succ] at hE4
        simp only [Act.put, List.setIfInBounds_toArray, List.set_cons_zero, List.set_cons_succ]
        repeat ((fail_if_success (with_reducible show wpList _ _ _ (List.cons _ _) _ _)); (fail_if_success (with_reducible show Code.wp _ (Code.region _ _ true) _ _ _)); go_step)
        refine wl_step (st_val rfl (v_moveT (.inl rfl) rfl) ?_)
        simp only [Act.put, List.setIfInBounds_toArray, List.set_cons_zero, List.set_cons_succ]
        refine wl_step (st_val rfl (v_add (n := 1) rfl rfl rfl (w_i64 (by omega))) ?_)
        simp only [Act.put, List.setIfInBounds_toArray, List.set_cons_zero, List.set_cons_succ]
        refine wl_step (st_val rfl (v_moveT (.inr rfl) rfl) ?_)
        simp only [Act.put, List.setIfInBounds_toArray, List.set_cons_zero, List.set_cons_succ]
        go_wp2
        go_roundw
        case rel => exact ⟨K + 1, _, _, by omega, rfl, hA2, hB2, Lib.hid (mod_big _), Lib.hid (mod_big _), hE4⟩
        case measure => simp [intOf]; omega
      · have Hbit := Lib.hid (by rw [Hb.out]; exact decide_eq_false hbit : decide (c / 2 ^ (K % 8) % 2 = 1) = false)
        have hA2 := Lib.hid (pow_bit0 hA.out hbit)
        have hB2 := Lib.hid (pow_base hB.out)
        clear hbit
        repeat ((fail_if_success (with_reducible show wpList _ _ _ (List.cons _ _) _ _)); (fail_if_success (with_reducible show Code.wp _ (Code.region _ _ true) _ _ _)); go_step)
        refine wl_step (st_val rfl (v_moveT (.inl rfl) rfl) ?_)
        simp only [Act.put, List.setIfInBounds_toArray, List.set_cons_zero, List.set_cons_succ]
        refine wl_step (st_val rfl (v_lss (n := 256) rfl rfl rfl) ?_)
        simp only [Act.put, List.setIfInBounds_toArray, List.set_cons_zero, List.set_cons_succ]
        repeat ((fail_if_success (with_reducible show wpList _ _ _ (List.cons _ _) _ _)); (fail_if_success (with_reducible show Code.wp _ (Code.region _ _ true) _ _ _)); go_step)
        refine wl_step (st_val rfl (v_moveT (.inl rfl) rfl) ?_)
        simp only [Act.put, List.setIfInBounds_toArray, List.set_cons_zero, List.set_cons_succ]
        refine wl_step (st_val rfl (v_quo (n := 8) rfl rfl rfl (by omega) (w_i64 (by omega))) ?_)
        simp only [Act.put, List.setIfInBounds_toArray, List.set_cons_zero, List.set_cons_succ]
        refine wl_step (st_val rfl (v_indexA0 rfl rfl rfl Try.underlying22 (by kernel_rfl) (by first | assumption | omega)) ?_)
        simp only [Act.put, List.setIfInBounds_toArray, List.set_cons_zero, List.set_cons_succ]
        refine wl_step (st_val rfl (v_cell rfl rfl Try.underlying5 rfl (Env.cellv (i := 2) hE0 rfl (ints_get? _ _ _ (by first | assumption | omega | (simp; done) | (simp; omega))))) ?_)
        simp only [Act.put, List.setIfInBounds_toArray, List.set_cons_zero, List.set_cons_succ]
        rw [Hg.out]
        refine wl_step (st_val rfl (v_moveT (.inl rfl) rfl) ?_)
        simp only [Act.put, List.setIfInBounds_toArray, List.set_cons_zero, List.set_cons_succ]
        refine wl_step (st_val rfl (v_rem (n := 8) rfl rfl rfl (by omega)) ?_)
        simp only [Act.put, List.setIfInBounds_toArray, List.set_cons_zero, List.set_cons_succ]
        refine wl_step (st_val rfl (v_shr rfl rfl rfl (by simp only [IntKind.bits]; omega)) ?_)
        simp only [Act.put, List.setIfInBounds_toArray, List.set_cons_zero, List.set_cons_succ]
        refine wl_step (st_val rfl (v_rem (n := 2) rfl rfl rfl (by omega)) ?_)
        simp only [Act.put, List.setIfInBounds_toArray, List.set_cons_zero, List.set_cons_succ]
        refine wl_step (st_val rfl (v_eql (n := 1) rfl rfl rfl) ?_)
        simp only [Act.put, List.setIfInBounds_toArray, List.set_cons_zero, List.set_cons_succ]
        rw [Hbit.out]
        repeat ((fail_if_success (with_reducible show wpList _ _ _ (List.cons _ _) _ _)); (fail_if_success (with_reducible show Code.wp _ (Code.region _ _ true) _ _ _)); (fail_if_success (with_reducible show Code.wp _ (Code.cond _ _ _) _ _ _)); go_step)
        refine wp_cond_false (by first | rfl | exact congrArg Value.bool (decide_eq_false (by omega))) ?_
        skip
        repeat ((fail_if_success (with_reducible show wpList _ _ _ (List.cons _ _) _ _)); (fail_if_success (with_reducible show Code.wp _ (Code.region _ _ true) _ _ _)); go_step)
        refine wl_step (st_val rfl (v_load (i := 3) hE0 rfl rfl rfl Try.underlying43 rfl (sz_of (n := 8) (by kernel_rfl) (by first | (simp only [ints_size, digs_length, List.length_replicate, List.length_cons, List.length_nil]; done) | (simp only [ints_size, digs_length, List.length_replicate, List.length_cons, List.length_nil, List.length_set, List.length_append]; omega) | rfl))) ?_)
        simp only [Act.put, List.setIfInBounds_toArray, List.set_cons_zero, List.set_cons_succ]
        refine wl_step (st_val rfl (v_load (i := 3) hE0 rfl rfl rfl Try.underlying43 rfl (sz_of (n := 8) (by kernel_rfl) (by first | (simp only [ints_size, digs_length, List.length_replicate, List.length_cons, List.length_nil]; done) | (simp only [ints_size, digs_length, List.length_replicate, List.length_cons, List.length_nil, List.length_set, List.length_append]; omega) | rfl))) ?_)
        simp only [Act.put, List.setIfInBounds_toArray, List.set_cons_zero, List.set_cons_succ]
        refine wl_step (st_gives hE0 rfl (run_call rfl Try.call54) (hM2.out _) ?_)
        intro w1 hb1 hE1
        clear hE0
        simp only [Act.put, List.setIfInBounds_toArray, List.set_cons_zero, List.set_cons_succ]
        refine wl_step (st_store (i := 3) hE1 rfl rfl rfl rfl rfl (sz_of (n := 8) (by kernel_rfl) (by first | (simp only [ints_size, digs_length, List.length_replicate, List.length_cons, List.length_nil]; done) | (simp only [ints_size, digs_length, List.length_replicate, List.length_cons, List.length_nil, List.length_set, List.length_append]; omega) | rfl)) (by first | (simp only [ints_size, digs_length, List.length_replicate, List.length_cons, List.length_nil]; done) | (simp only [ints_size, digs_length, List.length_replicate, List.length_cons, List.length_nil, List.length_set, List.length_append]; omega) | rfl) (by first | exact ints_one _ _ | decide | simp [*]) ?_)
        intro w2 hE2
        clear hE1
        simp only [List.set_cons_zero, List.set_cons_succ] at hE2
        simp only [Act.put, List.setIfInBounds_toArray, List.set_cons_zero, List.set_cons_succ]
        repeat ((fail_if_success (with_reducible show wpList _ _ _ (List.cons _ _) _ _)); (fail_if_success (with_reducible show Code.wp _ (Code.region _ _ true) _ _ _)); go_step)
        refine wl_step (st_val rfl (v_moveT (.inl rfl) rfl) ?_)
        simp only [Act.put, List.setIfInBounds_toArray, List.set_cons_zero, List.set_cons_succ]
        refine wl_step (st_val rfl (v_add (n := 1) rfl rfl rfl (w_i64 (by omega))) ?_)
        simp only [Act.put, List.setIfInBounds_toArray, List.set_cons_zero, List.set_cons_succ]
        refine wl_step (st_val rfl (v_moveT (.inr rfl) rfl) ?_)
        simp only [Act.put, List.setIfInBounds_toArray, List.set_cons_zero, List.set_cons_succ]
        go_wp2
        go_roundw
        case rel => exact ⟨K + 1, _, _, by omega, rfl, hA2, hB2, hAl, Lib.hid (mod_big _), hE2⟩
        case measure => simp [intOf]; omega
    · have hK' : K = 256 := by omega
      subst hK'
      have hA2 := hA.out
      rw [Nat.mod_eq_of_lt HE.out] at hA2
      have HA2 := Lib.hid hA2
      clear hA2
      repeat ((fail_if_success (with_reducible show wpList _ _ _ (List.cons _ _) _ _)); (fail_if_success (with_reducible show Code.wp _ (Code.region _ _ true) _ _ _)); go_step)
      refine wl_step (st_val rfl (v_moveT (.inl rfl) rfl) ?_)
      simp only [Act.put, List.setIfInBounds_toArray, List.set_cons_zero, List.set_cons_succ]
      refine wl_step (st_val rfl (v_lss (n := 256) rfl rfl rfl) ?_)
      simp only [Act.put, List.setIfInBounds_toArray, List.set_cons_zero, List.set_cons_succ]
      repeat ((fail_if_success (with_reducible show wpList _ _ _ (List.cons _ _) _ _)); (fail_if_success (with_reducible show Code.wp _ (Code.region _ _ true) _ _ _)); go_step)
      refine wl_step (st_val rfl (v_load (i := 0) hE0 rfl rfl rfl Try.underlying43 rfl (sz_of (n := 8) (by kernel_rfl) (by first | (simp only [ints_size, digs_length, List.length_replicate, List.length_cons, List.length_nil]; done) | (simp only [ints_size, digs_length, List.length_replicate, List.length_cons, List.length_nil, List.length_set, List.length_append]; omega) | rfl))) ?_)
      simp only [Act.put, List.setIfInBounds_toArray, List.set_cons_zero, List.set_cons_succ]
      refine wl_step (st_store (i := 1) hE0 rfl rfl rfl rfl rfl (sz_of (n := 8) (by kernel_rfl) (by first | (simp only [ints_size, digs_length, List.length_replicate, List.length_cons, List.length_nil]; done) | (simp only [ints_size, digs_length, List.length_replicate, List.length_cons, List.length_nil, List.length_set, List.length_append]; omega) | rfl)) (by first | (simp only [ints_size, digs_length, List.length_replicate, List.length_cons, List.length_nil]; done) | (simp only [ints_size, digs_length, List.length_replicate, List.length_cons, List.length_nil, List.length_set, List.length_append]; omega) | rfl) (by first | exact ints_one _ _ | decide | simp [*]) ?_)
      intro w1 hE1
      clear hE0
      simp only [List.set_cons_zero, List.set_cons_succ] at hE1
      simp only [Act.put, List.setIfInBounds_toArray, List.set_cons_zero, List.set_cons_succ]
      repeat ((fail_if_success (with_reducible show wpList _ _ _ (List.cons _ _) _ _)); (fail_if_success (with_reducible show Code.wp _ (Code.region _ _ true) _ _ _)); go_step)
      refine bodyPost_ret (results_cell_row rfl _ _ _ _ _ (0, 0) _ rfl (hE1.get (i := 1) rfl) Try.underlying43 rfl (sz_of (n := 8) (by kernel_rfl) (by first | (simp only [ints_size, digs_length, List.length_replicate, List.length_cons, List.length_nil]; done) | (simp only [ints_size, digs_length, List.length_replicate, List.length_cons, List.length_nil, List.length_set, List.length_append]; omega) | rfl))) rfl ⟨by rw [HA2.out], hE1.below⟩
end Go.Proofs.Ytmebjoehmheknaa
