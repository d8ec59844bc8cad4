/-
  Layer 4: the product, walked.
-/
import Derived.Test.YtmebjoehmheknaaFldC
namespace Go.Proofs.Ytmebjoehmheknaa
open Go.RowKit
set_option linter.unusedVariables false
set_option linter.unusedSimpArgs false

theorem or_add {x y : Nat} (h : y < 8192) : (x * 8192) ||| y = x * 8192 + y := by
  have := Nat.two_pow_add_eq_or_of_lt (i := 13) (show y < 2 ^ 13 from h) x
  rw [Nat.mul_comm x 8192]
  exact this.symm
theorem v_orAdd {a : Act} {w : World} {o : Oper} {P : Program} {t t' : TypeId} {x y : Operand} {m n : Nat} (ho : o.op = .binOp .or t x y t') (hx : a.eval x = .int .u64 ((m * 8192 : Nat) : Int)) (hy : a.eval y = .int .u64 (n : Int)) (hm : m < 2251799813685248) (hn : n < 8192) : Val P o a (.int .u64 ((m * 8192 + n : Nat) : Int)) w := by
  have h1 : m * 8192 < 2 ^ IntKind.u64.bits := by simp only [IntKind.bits]; omega
  have h2 : n < 2 ^ IntKind.u64.bits := by simp only [IntKind.bits]; omega
  have h := v_bor (P := P) (w := w) ho hx hy h1 h2 (w_or rfl h1 h2)
  rwa [or_add hn] at h

theorem word_key {A O : Nat} (hA : A < 4056481920730334084789450257203201) (hO : O < 4611686018427387904) :
    sumW (A % 18446744073709551616) O 0 = (A + O) % 18446744073709551616 ∧ A / 18446744073709551616 + carW (A % 18446744073709551616) O 0 = (A + O) / 18446744073709551616 ∧ (A + O) / 18446744073709551616 < 2251799813685248 ∧
    (A + O) % 18446744073709551616 % 2251799813685248 = (A + O) % 2251799813685248 ∧ (A + O) / 18446744073709551616 * 8192 + (A + O) % 18446744073709551616 / 2251799813685248 = (A + O) / 2251799813685248 := by
  unfold sumW carW
  omega
theorem last_key {O a : Nat} (hO : O < 4611686018427387904) (ha : a < 2251799813685248) :
    sumW (mulLo O 19) a 0 = (O * 19 + a) % 18446744073709551616 ∧ mulHi O 19 + carW (mulLo O 19) a 0 = (O * 19 + a) / 18446744073709551616 ∧ (O * 19 + a) / 18446744073709551616 < 2251799813685248 ∧
    (O * 19 + a) % 18446744073709551616 % 2251799813685248 = (O * 19 + a) % 2251799813685248 ∧ (O * 19 + a) / 18446744073709551616 * 8192 + (O * 19 + a) % 18446744073709551616 / 2251799813685248 = (O * 19 + a) / 2251799813685248 := by
  unfold sumW carW mulLo mulHi
  omega

set_option maxRecDepth 100000 in
set_option maxHeartbeats 4000000 in
theorem Mul_walk {l m : List Nat} (hl : Fe l) (hm : Fe m) (w : World) : Gives 34 #[elem l, elem m] w (elem (carryL (mulOut (prodAcc l m 25)))) := by
  have hl5 := hl.1
  have hm5 := hm.1
  have Hl := Lib.hid hl
  have Hm := Lib.hid hm
  obtain ⟨A, hAe⟩ : ∃ A, A = prodAcc l m 25 := ⟨_, rfl⟩
  have hA : ∀ j, A.getD j 0 < 4056481920730334084789450257203201 := fun j => by rw [hAe]; exact Nat.lt_of_le_of_lt (prodAcc_lt hl hm 25 j) (by decide)
  have hAl : A.length = 5 := by rw [hAe]; exact prodAcc_len l m 25
  rw [← hAe]
  have HAe := Lib.hid hAe
  have HO := Lib.hid (fun i (hi : i ≤ 5) => over_lt hA i (by omega))
  have HA := Lib.hid hA
  have HC := Lib.hid (fun w => carry_any (mulOut A) rfl (mem_mono (mulOut_lt (HO.out 5 (by decide))) (by decide)) w)
  have HF := Lib.hid (fun t (ht : t < 25) j => prod_fits hl hm ht j)
  clear hl hm hA hAe
  have hE0 := Env.nil w
  go_enter Try.func34, Try.ntmps34
  repeat ((fail_if_success (with_reducible show wpList _ _ _ (List.cons _ _) _ _)); (fail_if_success (with_reducible show Code.wp _ (Code.region _ _ true) _ _ _)); go_step)
  refine wl_step (st_boxA hE0 rfl rfl rfl ?_)
  intro g0 w1 hb1 hE1
  clear hE0
  simp only [Act.put, List.setIfInBounds_toArray, List.set_cons_zero, List.set_cons_succ]
  refine wl_step (st_boxA hE1 rfl rfl rfl ?_)
  intro g1 w2 hb2 hE2
  clear hE1
  simp only [Act.put, List.setIfInBounds_toArray, List.set_cons_zero, List.set_cons_succ]
  refine wl_step (st_alloc (zs := ints .u64 (List.replicate 5 0)) hE2 rfl rfl (fun w => by kernel_rfl) ?_)
  intro g2 w3 hb3 hE3
  clear hE2
  simp only [Act.put, List.setIfInBounds_toArray, List.set_cons_zero, List.set_cons_succ]
  repeat ((fail_if_success (with_reducible show wpList _ _ _ (List.cons _ _) _ _)); (fail_if_success (with_reducible show Code.wp _ (Code.region _ _ true) _ _ _)); go_step)
  refine wl_step (st_alloc (zs := ints .u64 (List.replicate 10 0)) hE3 rfl rfl (fun w => by kernel_rfl) ?_)
  intro g3 w4 hb4 hE4
  clear hE3
  simp only [Act.put, List.setIfInBounds_toArray, List.set_cons_zero, List.set_cons_succ]
  repeat ((fail_if_success (with_reducible show wpList _ _ _ (List.cons _ _) _ _)); (fail_if_success (with_reducible show Code.wp _ (Code.region _ _ true) _ _ _)); go_step)
  refine wl_step (st_val rfl (v_field0 (s := 4) rfl rfl Try.underlying26 rfl (by kernel_rfl) rfl) ?_)
  simp only [Act.put, List.setIfInBounds_toArray, List.set_cons_zero, List.set_cons_succ]
  refine wl_step (st_val rfl (v_load (i := 3) hE4 rfl rfl rfl Try.underlying24 rfl (sz_of (n := 5) (by kernel_rfl) (by first | (simp only [ints_size, digs_length, List.length_replicate, List.length_cons, List.length_nil]; done) | (simp only [ints_size, digs_length, List.length_replicate, List.length_cons, List.length_nil, List.length_set, List.length_append]; omega) | rfl))) ?_)
  simp only [Act.put, List.setIfInBounds_toArray, List.set_cons_zero, List.set_cons_succ]
  refine wl_step (st_val rfl (v_moveC (.inl rfl)) ?_)
  simp only [Act.put, List.setIfInBounds_toArray, List.set_cons_zero, List.set_cons_succ]
  go_wp2
  go_loopw [21] (fun i wr => ∃ I : Nat, I ≤ 5 ∧ i = .int .i64 I ∧ Env w [⟨g3, 84, ints .u64 (wcells (prodAcc l m (5 * I)))⟩, ⟨g2, 26, ints .u64 (List.replicate 5 0)⟩, ⟨g1, 26, ints .u64 m⟩, ⟨g0, 26, ints .u64 l⟩] wr) (fun i _ => 5 - (intOf i).toNat)
  case atStart => exact ⟨0, Nat.zero_le _, rfl, hE4⟩
  case round =>
    clear hE4
    obtain ⟨I, hI, rfl, hE0⟩ := hrel
    by_cases hI5 : I < 5
    · have hlI := Hl.out.getD I
      repeat ((fail_if_success (with_reducible show wpList _ _ _ (List.cons _ _) _ _)); (fail_if_success (with_reducible show Code.wp _ (Code.region _ _ true) _ _ _)); go_step)
      refine wl_step (st_val rfl (v_lss (n := 5) rfl rfl rfl) ?_)
      simp only [Act.put, List.setIfInBounds_toArray, List.set_cons_zero, List.set_cons_succ]
      repeat ((fail_if_success (with_reducible show wpList _ _ _ (List.cons _ _) _ _)); (fail_if_success (with_reducible show Code.wp _ (Code.region _ _ true) _ _ _)); go_step)
      refine wl_step (st_val rfl (v_moveT (.inl rfl) rfl) ?_)
      simp only [Act.put, List.setIfInBounds_toArray, List.set_cons_zero, List.set_cons_succ]
      refine wl_step (st_val rfl (v_idx rfl rfl rfl Try.underlying24 (by kernel_rfl : _ = some Try.t23) rfl Try.underlying23 (by first | assumption | simp) (by first | assumption | omega)) ?_)
      simp only [Act.put, List.setIfInBounds_toArray, List.set_cons_zero, List.set_cons_succ]
      refine wl_step (st_val rfl (v_moveT (.inr rfl) rfl) ?_)
      simp only [Act.put, List.setIfInBounds_toArray, List.set_cons_zero, List.set_cons_succ]
      refine wl_step (st_val rfl (v_moveT (.inr rfl) rfl) ?_)
      simp only [Act.put, List.setIfInBounds_toArray, List.set_cons_zero, List.set_cons_succ]
      repeat ((fail_if_success (with_reducible show wpList _ _ _ (List.cons _ _) _ _)); (fail_if_success (with_reducible show Code.wp _ (Code.region _ _ true) _ _ _)); go_step)
      refine wl_step (st_val rfl (v_field0 (s := 4) rfl rfl Try.underlying26 rfl (by kernel_rfl) rfl) ?_)
      simp only [Act.put, List.setIfInBounds_toArray, List.set_cons_zero, List.set_cons_succ]
      refine wl_step (st_val rfl (v_load (i := 2) hE0 rfl rfl rfl Try.underlying24 rfl (sz_of (n := 5) (by kernel_rfl) (by first | (simp only [ints_size, digs_length, List.length_replicate, List.length_cons, List.length_nil]; done) | (simp only [ints_size, digs_length, List.length_replicate, List.length_cons, List.length_nil, List.length_set, List.length_append]; omega) | rfl))) ?_)
      simp only [Act.put, List.setIfInBounds_toArray, List.set_cons_zero, List.set_cons_succ]
      refine wl_step (st_val rfl (v_moveC (.inl rfl)) ?_)
      simp only [Act.put, List.setIfInBounds_toArray, List.set_cons_zero, List.set_cons_succ]
      go_wp2
      go_loopw [27] (fun i wr => ∃ K : Nat, K ≤ 5 ∧ i = .int .i64 K ∧ Env w [⟨g3, 84, ints .u64 (wcells (prodAcc l m (5 * I + K)))⟩, ⟨g2, 26, ints .u64 (List.replicate 5 0)⟩, ⟨g1, 26, ints .u64 m⟩, ⟨g0, 26, ints .u64 l⟩] wr) (fun i _ => 5 - (intOf i).toNat)
      case atStart => exact ⟨0, Nat.zero_le _, rfl, hE0⟩
      case round =>
        clear hE0
        obtain ⟨K, hK, rfl, hE0⟩ := hrel
        by_cases hK5 : K < 5
        · have hmK := Hm.out.getD K
          have hlen := prodAcc_len l m (5 * I + K)
          have hst := step5 (I := I) hK5
          have hwl : (wcells (prodAcc l m (5 * I + K))).length = 10 := by rw [wcells_len, hlen]
          have hfit := HF.out (5 * I + K) (by omega)
          have hnext : prodAcc l m (5 * I + (K + 1)) = (prodAcc l m (5 * I + K)).set ((I + K) % 5) ((prodAcc l m (5 * I + K)).getD ((I + K) % 5) 0 + l.getD I 0 * (if 5 ≤ I + K then 19 * m.getD K 0 else m.getD K 0)) := by
            show prodAcc l m (5 * I + K + 1) = _
            rw [prodAcc, mslot, mterm, hst.1, hst.2]
          have hf2 : ∀ j, (prodAcc l m (5 * I + K)).getD j 0 + l.getD I 0 * (if 5 ≤ I + K then 19 * m.getD K 0 else m.getD K 0) < 340282366920938463463374607431768211456 := fun j => by
            have := hfit j
            rwa [mterm, hst.1, hst.2] at this
          have hl64 : l.getD I 0 < 18446744073709551616 := by omega
          clear hfit hst
          by_cases hge : 5 ≤ I + K
          · have hs : (I + K) % 5 = I + K - 5 := by omega
            rw [if_pos hge, hs] at hnext
            have hplus := fun w => plus_any ((prodAcc l m (5 * I + K)).getD (I + K - 5) 0) (l.getD I 0) (19 * m.getD K 0) (by have := hf2 (I + K - 5); rwa [if_pos hge] at this) hl64 (by omega) w
            have Hplus := Lib.hid hplus
            have Hnext := Lib.hid hnext
            have hj : I + K - 5 < (prodAcc l m (5 * I + K)).length := by omega
            have hj2 : (I + K - 5) * 2 + 2 ≤ (wcells (prodAcc l m (5 * I + K))).length := by omega
            have hj3 : I + K - 5 < 5 := by omega
            clear hplus hnext hf2 hl64
            repeat ((fail_if_success (with_reducible show wpList _ _ _ (List.cons _ _) _ _)); (fail_if_success (with_reducible show Code.wp _ (Code.region _ _ true) _ _ _)); go_step)
            refine wl_step (st_val rfl (v_lss (n := 5) rfl rfl rfl) ?_)
            simp only [Act.put, List.setIfInBounds_toArray, List.set_cons_zero, List.set_cons_succ]
            repeat ((fail_if_success (with_reducible show wpList _ _ _ (List.cons _ _) _ _)); (fail_if_success (with_reducible show Code.wp _ (Code.region _ _ true) _ _ _)); go_step)
            refine wl_step (st_val rfl (v_moveT (.inl rfl) rfl) ?_)
            simp only [Act.put, List.setIfInBounds_toArray, List.set_cons_zero, List.set_cons_succ]
            refine wl_step (st_val rfl (v_idx rfl rfl rfl Try.underlying24 (by kernel_rfl : _ = some Try.t23) rfl Try.underlying23 (by first | assumption | simp) (by first | assumption | omega)) ?_)
            simp only [Act.put, List.setIfInBounds_toArray, List.set_cons_zero, List.set_cons_succ]
            refine wl_step (st_val rfl (v_moveT (.inr rfl) rfl) ?_)
            simp only [Act.put, List.setIfInBounds_toArray, List.set_cons_zero, List.set_cons_succ]
            refine wl_step (st_val rfl (v_moveT (.inr rfl) rfl) ?_)
            simp only [Act.put, List.setIfInBounds_toArray, List.set_cons_zero, List.set_cons_succ]
            repeat ((fail_if_success (with_reducible show wpList _ _ _ (List.cons _ _) _ _)); (fail_if_success (with_reducible show Code.wp _ (Code.region _ _ true) _ _ _)); go_step)
            refine wl_step (st_val rfl (v_moveT (.inl rfl) rfl) ?_)
            simp only [Act.put, List.setIfInBounds_toArray, List.set_cons_zero, List.set_cons_succ]
            refine wl_step (st_val rfl (v_moveT (.inl rfl) rfl) ?_)
            simp only [Act.put, List.setIfInBounds_toArray, List.set_cons_zero, List.set_cons_succ]
            refine wl_step (st_val rfl (v_add rfl rfl rfl (w_i64 (by omega))) ?_)
            simp only [Act.put, List.setIfInBounds_toArray, List.set_cons_zero, List.set_cons_succ]
            refine wl_step (st_val rfl (v_geq (n := 5) rfl rfl rfl) ?_)
            simp only [Act.put, List.setIfInBounds_toArray, List.set_cons_zero, List.set_cons_succ]
            repeat ((fail_if_success (with_reducible show wpList _ _ _ (List.cons _ _) _ _)); (fail_if_success (with_reducible show Code.wp _ (Code.region _ _ true) _ _ _)); (fail_if_success (with_reducible show Code.wp _ (Code.cond _ _ _) _ _ _)); go_step)
            refine wp_cond_true (by first | rfl | exact congrArg Value.bool (decide_eq_true (by omega))) ?_
            skip
            repeat ((fail_if_success (with_reducible show wpList _ _ _ (List.cons _ _) _ _)); (fail_if_success (with_reducible show Code.wp _ (Code.region _ _ true) _ _ _)); go_step)
            refine wl_step (st_val rfl (v_moveT (.inl rfl) rfl) ?_)
            simp only [Act.put, List.setIfInBounds_toArray, List.set_cons_zero, List.set_cons_succ]
            refine wl_step (st_val rfl (v_moveT (.inl rfl) rfl) ?_)
            simp only [Act.put, List.setIfInBounds_toArray, List.set_cons_zero, List.set_cons_succ]
            refine wl_step (st_val rfl (v_add rfl rfl rfl (w_i64 (by omega))) ?_)
            simp only [Act.put, List.setIfInBounds_toArray, List.set_cons_zero, List.set_cons_succ]
            refine wl_step (st_val rfl (v_sub (n := 5) rfl rfl rfl (by first | exact w_i64s (by omega) (by omega) | exact w_i64I (by omega) (by omega))) ?_)
            simp only [Act.put, List.setIfInBounds_toArray, List.set_cons_zero, List.set_cons_succ]
            refine wl_step (st_val rfl (v_moveT (.inl rfl) rfl) ?_)
            simp only [Act.put, List.setIfInBounds_toArray, List.set_cons_zero, List.set_cons_succ]
            refine wl_step (st_val rfl (v_moveT (.inl rfl) rfl) ?_)
            simp only [Act.put, List.setIfInBounds_toArray, List.set_cons_zero, List.set_cons_succ]
            refine wl_step (st_val rfl (v_add rfl rfl rfl (w_i64 (by omega))) ?_)
            simp only [Act.put, List.setIfInBounds_toArray, List.set_cons_zero, List.set_cons_succ]
            refine wl_step (st_val rfl (v_sub (n := 5) rfl rfl rfl (by first | exact w_i64s (by omega) (by omega) | exact w_i64I (by omega) (by omega))) ?_)
            simp only [Act.put, List.setIfInBounds_toArray, List.set_cons_zero, List.set_cons_succ]
            refine wl_step (st_val rfl (v_indexAs (s := 2) rfl rfl rfl Try.underlying84 (by kernel_rfl) (by first | assumption | omega)) ?_)
            simp only [Act.put, List.setIfInBounds_toArray, List.set_cons_zero, List.set_cons_succ]
            refine wl_step (st_val rfl (v_loadPart (i := 0) (n := 2) hE0 rfl rfl rfl Try.underlying83 rfl (by kernel_rfl) (by first | assumption | (simp only [List.length_append, *]; try omega))) ?_)
            simp only [Act.put, List.setIfInBounds_toArray, List.set_cons_zero, List.set_cons_succ]
            rw [wcells_part hj]
            refine wl_step (st_val rfl (v_moveT (.inl rfl) rfl) ?_)
            simp only [Act.put, List.setIfInBounds_toArray, List.set_cons_zero, List.set_cons_succ]
            refine wl_step (st_val rfl (v_moveT (.inl rfl) rfl) ?_)
            simp only [Act.put, List.setIfInBounds_toArray, List.set_cons_zero, List.set_cons_succ]
            refine wl_step (st_val rfl (v_mul (m := 19) rfl rfl rfl (by first | exact w_u64 (by omega) | exact w_u64m _)) ?_)
            simp only [Act.put, List.setIfInBounds_toArray, List.set_cons_zero, List.set_cons_succ]
            refine wl_step (st_gives hE0 rfl (run_call rfl Try.call63) (Hplus.out _) ?_)
            intro w1 hb1 hE1
            clear hE0
            simp only [Act.put, List.setIfInBounds_toArray, List.set_cons_zero, List.set_cons_succ]
            refine wl_step (st_val rfl (v_indexAs (s := 2) rfl rfl rfl Try.underlying84 (by kernel_rfl) (by first | assumption | omega)) ?_)
            simp only [Act.put, List.setIfInBounds_toArray, List.set_cons_zero, List.set_cons_succ]
            refine wl_step (st_putPart (i := 0) (n := 2) hE1 rfl rfl rfl rfl rfl (by kernel_rfl) (by first | rfl | assumption) (by first | assumption | (simp only [List.length_append, *]; try omega)) ?_)
            intro w2 hE2
            clear hE1
            simp only [List.set_cons_zero, List.set_cons_succ] at hE2
            simp only [Act.put, List.setIfInBounds_toArray, List.set_cons_zero, List.set_cons_succ]
            rw [wcells_put hj, ← Hnext.out] at hE2
            repeat ((fail_if_success (with_reducible show wpList _ _ _ (List.cons _ _) _ _)); (fail_if_success (with_reducible show Code.wp _ (Code.region _ _ true) _ _ _)); go_step)
            refine wl_step (st_val rfl (v_add (n := 1) rfl rfl rfl (w_i64 (by omega))) ?_)
            simp only [Act.put, List.setIfInBounds_toArray, List.set_cons_zero, List.set_cons_succ]
            refine wl_step (st_val rfl (v_moveT (.inl rfl) rfl) ?_)
            simp only [Act.put, List.setIfInBounds_toArray, List.set_cons_zero, List.set_cons_succ]
            go_wp2
            go_roundw
            case rel => exact ⟨K + 1, by omega, rfl, hE2⟩
            case measure => simp [intOf]; omega
          · have hs : (I + K) % 5 = I + K := by omega
            rw [if_neg hge, hs] at hnext
            have hplus := fun w => plus_any ((prodAcc l m (5 * I + K)).getD (I + K) 0) (l.getD I 0) (m.getD K 0) (by have := hf2 (I + K); rwa [if_neg hge] at this) hl64 (by omega) w
            have Hplus := Lib.hid hplus
            have Hnext := Lib.hid hnext
            have hj : I + K < (prodAcc l m (5 * I + K)).length := by omega
            have hj2 : (I + K) * 2 + 2 ≤ (wcells (prodAcc l m (5 * I + K))).length := by omega
            have hj3 : I + K < 5 := by omega
            clear hplus hnext hf2 hl64
            repeat ((fail_if_success (with_reducible show wpList _ _ _ (List.cons _ _) _ _)); (fail_if_success (with_reducible show Code.wp _ (Code.region _ _ true) _ _ _)); go_step)
            refine wl_step (st_val rfl (v_lss (n := 5) rfl rfl rfl) ?_)
            simp only [Act.put, List.setIfInBounds_toArray, List.set_cons_zero, List.set_cons_succ]
            repeat ((fail_if_success (with_reducible show wpList _ _ _ (List.cons _ _) _ _)); (fail_if_success (with_reducible show Code.wp _ (Code.region _ _ true) _ _ _)); go_step)
            refine wl_step (st_val rfl (v_moveT (.inl rfl) rfl) ?_)
            simp only [Act.put, List.setIfInBounds_toArray, List.set_cons_zero, List.set_cons_succ]
            refine wl_step (st_val rfl (v_idx rfl rfl rfl Try.underlying24 (by kernel_rfl : _ = some Try.t23) rfl Try.underlying23 (by first | assumption | simp) (by first | assumption | omega)) ?_)
            simp only [Act.put, List.setIfInBounds_toArray, List.set_cons_zero, List.set_cons_succ]
            refine wl_step (st_val rfl (v_moveT (.inr rfl) rfl) ?_)
            simp only [Act.put, List.setIfInBounds_toArray, List.set_cons_zero, List.set_cons_succ]
            refine wl_step (st_val rfl (v_moveT (.inr rfl) rfl) ?_)
            simp only [Act.put, List.setIfInBounds_toArray, List.set_cons_zero, List.set_cons_succ]
            repeat ((fail_if_success (with_reducible show wpList _ _ _ (List.cons _ _) _ _)); (fail_if_success (with_reducible show Code.wp _ (Code.region _ _ true) _ _ _)); go_step)
            refine wl_step (st_val rfl (v_moveT (.inl rfl) rfl) ?_)
            simp only [Act.put, List.setIfInBounds_toArray, List.set_cons_zero, List.set_cons_succ]
            refine wl_step (st_val rfl (v_moveT (.inl rfl) rfl) ?_)
            simp only [Act.put, List.setIfInBounds_toArray, List.set_cons_zero, List.set_cons_succ]
            refine wl_step (st_val rfl (v_add rfl rfl rfl (w_i64 (by omega))) ?_)
            simp only [Act.put, List.setIfInBounds_toArray, List.set_cons_zero, List.set_cons_succ]
            refine wl_step (st_val rfl (v_geq (n := 5) rfl rfl rfl) ?_)
            simp only [Act.put, List.setIfInBounds_toArray, List.set_cons_zero, List.set_cons_succ]
            repeat ((fail_if_success (with_reducible show wpList _ _ _ (List.cons _ _) _ _)); (fail_if_success (with_reducible show Code.wp _ (Code.region _ _ true) _ _ _)); (fail_if_success (with_reducible show Code.wp _ (Code.cond _ _ _) _ _ _)); go_step)
            refine wp_cond_false (by first | rfl | exact congrArg Value.bool (decide_eq_false (by omega))) ?_
            skip
            repeat ((fail_if_success (with_reducible show wpList _ _ _ (List.cons _ _) _ _)); (fail_if_success (with_reducible show Code.wp _ (Code.region _ _ true) _ _ _)); go_step)
            refine wl_step (st_val rfl (v_moveT (.inl rfl) rfl) ?_)
            simp only [Act.put, List.setIfInBounds_toArray, List.set_cons_zero, List.set_cons_succ]
            refine wl_step (st_val rfl (v_moveT (.inl rfl) rfl) ?_)
            simp only [Act.put, List.setIfInBounds_toArray, List.set_cons_zero, List.set_cons_succ]
            refine wl_step (st_val rfl (v_add rfl rfl rfl (w_i64 (by omega))) ?_)
            simp only [Act.put, List.setIfInBounds_toArray, List.set_cons_zero, List.set_cons_succ]
            refine wl_step (st_val rfl (v_moveT (.inl rfl) rfl) ?_)
            simp only [Act.put, List.setIfInBounds_toArray, List.set_cons_zero, List.set_cons_succ]
            refine wl_step (st_val rfl (v_moveT (.inl rfl) rfl) ?_)
            simp only [Act.put, List.setIfInBounds_toArray, List.set_cons_zero, List.set_cons_succ]
            refine wl_step (st_val rfl (v_add rfl rfl rfl (w_i64 (by omega))) ?_)
            simp only [Act.put, List.setIfInBounds_toArray, List.set_cons_zero, List.set_cons_succ]
            refine wl_step (st_val rfl (v_indexAs (s := 2) rfl rfl rfl Try.underlying84 (by kernel_rfl) (by first | assumption | omega)) ?_)
            simp only [Act.put, List.setIfInBounds_toArray, List.set_cons_zero, List.set_cons_succ]
            refine wl_step (st_val rfl (v_loadPart (i := 0) (n := 2) hE0 rfl rfl rfl Try.underlying83 rfl (by kernel_rfl) (by first | assumption | (simp only [List.length_append, *]; try omega))) ?_)
            simp only [Act.put, List.setIfInBounds_toArray, List.set_cons_zero, List.set_cons_succ]
            rw [wcells_part hj]
            refine wl_step (st_val rfl (v_moveT (.inl rfl) rfl) ?_)
            simp only [Act.put, List.setIfInBounds_toArray, List.set_cons_zero, List.set_cons_succ]
            refine wl_step (st_val rfl (v_moveT (.inl rfl) rfl) ?_)
            simp only [Act.put, List.setIfInBounds_toArray, List.set_cons_zero, List.set_cons_succ]
            refine wl_step (st_gives hE0 rfl (run_call rfl Try.call63) (Hplus.out _) ?_)
            intro w1 hb1 hE1
            clear hE0
            simp only [Act.put, List.setIfInBounds_toArray, List.set_cons_zero, List.set_cons_succ]
            refine wl_step (st_val rfl (v_indexAs (s := 2) rfl rfl rfl Try.underlying84 (by kernel_rfl) (by first | assumption | omega)) ?_)
            simp only [Act.put, List.setIfInBounds_toArray, List.set_cons_zero, List.set_cons_succ]
            refine wl_step (st_putPart (i := 0) (n := 2) hE1 rfl rfl rfl rfl rfl (by kernel_rfl) (by first | rfl | assumption) (by first | assumption | (simp only [List.length_append, *]; try omega)) ?_)
            intro w2 hE2
            clear hE1
            simp only [List.set_cons_zero, List.set_cons_succ] at hE2
            simp only [Act.put, List.setIfInBounds_toArray, List.set_cons_zero, List.set_cons_succ]
            rw [wcells_put hj, ← Hnext.out] at hE2
            repeat ((fail_if_success (with_reducible show wpList _ _ _ (List.cons _ _) _ _)); (fail_if_success (with_reducible show Code.wp _ (Code.region _ _ true) _ _ _)); go_step)
            refine wl_step (st_val rfl (v_add (n := 1) rfl rfl rfl (w_i64 (by omega))) ?_)
            simp only [Act.put, List.setIfInBounds_toArray, List.set_cons_zero, List.set_cons_succ]
            refine wl_step (st_val rfl (v_moveT (.inl rfl) rfl) ?_)
            simp only [Act.put, List.setIfInBounds_toArray, List.set_cons_zero, List.set_cons_succ]
            go_wp2
            go_roundw
            case rel => exact ⟨K + 1, by omega, rfl, hE2⟩
            case measure => simp [intOf]; omega
        · have hK' : K = 5 := by omega
          subst hK'
          repeat ((fail_if_success (with_reducible show wpList _ _ _ (List.cons _ _) _ _)); (fail_if_success (with_reducible show Code.wp _ (Code.region _ _ true) _ _ _)); go_step)
          refine wl_step (st_val rfl (v_lss (n := 5) rfl rfl rfl) ?_)
          simp only [Act.put, List.setIfInBounds_toArray, List.set_cons_zero, List.set_cons_succ]
          repeat ((fail_if_success (with_reducible show wpList _ _ _ (List.cons _ _) _ _)); (fail_if_success (with_reducible show Code.wp _ (Code.region _ _ true) _ _ _)); go_step)
          refine wl_step (st_val rfl (v_add (n := 1) rfl rfl rfl (w_i64 (by omega))) ?_)
          simp only [Act.put, List.setIfInBounds_toArray, List.set_cons_zero, List.set_cons_succ]
          refine wl_step (st_val rfl (v_moveT (.inl rfl) rfl) ?_)
          simp only [Act.put, List.setIfInBounds_toArray, List.set_cons_zero, List.set_cons_succ]
          go_wp2
          go_roundw
          case rel => exact ⟨I + 1, by omega, rfl, by rw [show 5 * (I + 1) = 5 * I + 5 by omega]; exact hE0⟩
          case measure => simp [intOf]; omega
    · have hI' : I = 5 := by omega
      subst hI'
      have hE1 : Env w [⟨g3, 84, ints .u64 (wcells A)⟩, ⟨g2, 26, ints .u64 (List.replicate 5 0)⟩, ⟨g1, 26, ints .u64 m⟩, ⟨g0, 26, ints .u64 l⟩] wr := by rw [HAe.out]; exact hE0
      clear hE0
      have hz : outF A 0 < 2251799813685248 := outF_lt _ _
      repeat ((fail_if_success (with_reducible show wpList _ _ _ (List.cons _ _) _ _)); (fail_if_success (with_reducible show Code.wp _ (Code.region _ _ true) _ _ _)); go_step)
      refine wl_step (st_val rfl (v_lss (n := 5) rfl rfl rfl) ?_)
      simp only [Act.put, List.setIfInBounds_toArray, List.set_cons_zero, List.set_cons_succ]
      repeat ((fail_if_success (with_reducible show wpList _ _ _ (List.cons _ _) _ _)); (fail_if_success (with_reducible show Code.wp _ (Code.region _ _ true) _ _ _)); go_step)
      refine wl_step (st_alloc (zs := ints .u64 (List.replicate 5 0)) hE1 rfl rfl (fun w => by kernel_rfl) ?_)
      intro g4 w2 hb2 hE2
      clear hE1
      simp only [Act.put, List.setIfInBounds_toArray, List.set_cons_zero, List.set_cons_succ]
      repeat ((fail_if_success (with_reducible show wpList _ _ _ (List.cons _ _) _ _)); (fail_if_success (with_reducible show Code.wp _ (Code.region _ _ true) _ _ _)); go_step)
      refine wl_step (st_val rfl (v_moveC (.inr rfl)) ?_)
      simp only [Act.put, List.setIfInBounds_toArray, List.set_cons_zero, List.set_cons_succ]
      repeat ((fail_if_success (with_reducible show wpList _ _ _ (List.cons _ _) _ _)); (fail_if_success (with_reducible show Code.wp _ (Code.region _ _ true) _ _ _)); go_step)
      refine wl_step (st_val rfl (v_moveC (.inl rfl)) ?_)
      simp only [Act.put, List.setIfInBounds_toArray, List.set_cons_zero, List.set_cons_succ]
      go_wp2
      go_loopw [11, 64] (fun ov i wr => ∃ k : Nat, k ≤ 5 ∧ i = .int .i64 k ∧ ov = .int .u64 (overF A k : Nat) ∧ Env w [⟨g4, 26, ints .u64 (fillR (outF A) (List.replicate 5 0) k)⟩, ⟨g3, 84, ints .u64 (wcells A)⟩, ⟨g2, 26, ints .u64 (List.replicate 5 0)⟩, ⟨g1, 26, ints .u64 m⟩, ⟨g0, 26, ints .u64 l⟩] wr) (fun _ i _ => 5 - (intOf i).toNat)
      case atStart => exact ⟨0, Nat.zero_le _, rfl, by rw [over_zero]; rfl, hE2⟩
      case round =>
        clear hE2 hI hI5
        obtain ⟨k, hk, rfl, rfl, hE0⟩ := hrel
        have hwl : (wcells A).length = 10 := by rw [wcells_len, hAl]
        have hX : (fillR (outF A) (List.replicate 5 0) k).length = 5 := fillR_len (by simp; omega)
        by_cases hk5 : k < 5
        · have hkl : k < A.length := by omega
          have hO := HO.out k hk
          have hwk := word_key (HA.out k) hO
          have hos := over_step hkl
          have hhi := wcells_hi hkl
          have hlo := wcells_lo hkl
          have hcw : carW (A.getD k 0 % 18446744073709551616) (overF A k) 0 ≤ 1 := carW_le (Nat.mod_lt _ (by decide)) (by omega) (by decide)
          obtain ⟨Ak, hAk⟩ : ∃ x, x = A.getD k 0 := ⟨_, rfl⟩
          have hAb := HA.out k
          rw [← hAk] at hwk hos hhi hlo hcw hAb
          obtain ⟨O, hOe⟩ : ∃ O, O = overF A k := ⟨_, rfl⟩
          rw [← hOe] at hwk hos hcw hO ⊢
          clear hAk hOe
          obtain ⟨hw1, hw2, hw3, hw4, hw5⟩ := hwk
          have Hhi := Lib.hid hhi
          have Hlo := Lib.hid hlo
          have Hw1 := Lib.hid hw1
          have Hw2 := Lib.hid hw2
          have Hw4 := Lib.hid hw4
          have Hw5 := Lib.hid hw5
          have Hos := Lib.hid hos
          have hml : (Ak + O) % 18446744073709551616 < 18446744073709551616 := Nat.mod_lt _ (by decide)
          have hm2 : (Ak + O) % 18446744073709551616 / 2251799813685248 < 8192 := by omega
          have hah : Ak / 18446744073709551616 + carW (Ak % 18446744073709551616) O 0 < 18446744073709551616 := by rw [hw2]; omega
          clear hhi hlo hw1 hw2 hw4 hw5 hos hAb
          repeat ((fail_if_success (with_reducible show wpList _ _ _ (List.cons _ _) _ _)); (fail_if_success (with_reducible show Code.wp _ (Code.region _ _ true) _ _ _)); go_step)
          refine wl_step (st_val rfl (v_lss (n := 5) rfl rfl rfl) ?_)
          simp only [Act.put, List.setIfInBounds_toArray, List.set_cons_zero, List.set_cons_succ]
          repeat ((fail_if_success (with_reducible show wpList _ _ _ (List.cons _ _) _ _)); (fail_if_success (with_reducible show Code.wp _ (Code.region _ _ true) _ _ _)); go_step)
          refine wl_step (st_val rfl (v_moveT (.inl rfl) rfl) ?_)
          simp only [Act.put, List.setIfInBounds_toArray, List.set_cons_zero, List.set_cons_succ]
          refine wl_step (st_val rfl (v_moveT (.inr rfl) rfl) ?_)
          simp only [Act.put, List.setIfInBounds_toArray, List.set_cons_zero, List.set_cons_succ]
          repeat ((fail_if_success (with_reducible show wpList _ _ _ (List.cons _ _) _ _)); (fail_if_success (with_reducible show Code.wp _ (Code.region _ _ true) _ _ _)); go_step)
          refine wl_step (st_val rfl (v_moveT (.inl rfl) rfl) ?_)
          simp only [Act.put, List.setIfInBounds_toArray, List.set_cons_zero, List.set_cons_succ]
          refine wl_step (st_val rfl (v_indexAs (s := 2) rfl rfl rfl Try.underlying84 (by kernel_rfl) (by first | assumption | omega)) ?_)
          simp only [Act.put, List.setIfInBounds_toArray, List.set_cons_zero, List.set_cons_succ]
          refine wl_step (st_val rfl (v_fieldK (s := 0) rfl rfl Try.underlying83 rfl (by kernel_rfl) rfl) ?_)
          simp only [Act.put, List.setIfInBounds_toArray, List.set_cons_zero, List.set_cons_succ]
          refine wl_step (st_val rfl (v_cell rfl rfl Try.underlying23 rfl (Env.cellv (i := 1) hE0 rfl (ints_get? _ _ _ (by first | assumption | omega | (simp; done) | (simp; omega))))) ?_)
          simp only [Act.put, List.setIfInBounds_toArray, List.set_cons_zero, List.set_cons_succ]
          rw [Hlo.out]
          refine wl_step (st_val rfl (v_moveT (.inl rfl) rfl) ?_)
          simp only [Act.put, List.setIfInBounds_toArray, List.set_cons_zero, List.set_cons_succ]
          refine wl_step (st_val rfl (v_extern rfl (fun w9 => run_Add64 _ _ 0 (by decide) w9)) ?_)
          simp only [Act.put, List.setIfInBounds_toArray, List.set_cons_zero, List.set_cons_succ]
          refine wl_step (st_val rfl (v_moveT (.inl rfl) rfl) ?_)
          simp only [Act.put, List.setIfInBounds_toArray, List.set_cons_zero, List.set_cons_succ]
          refine wl_step (st_val rfl (v_extract rfl rfl rfl) ?_)
          simp only [Act.put, List.setIfInBounds_toArray, List.set_cons_zero, List.set_cons_succ]
          rw [Hw1.out]
          refine wl_step (st_val rfl (v_extract rfl rfl rfl) ?_)
          simp only [Act.put, List.setIfInBounds_toArray, List.set_cons_zero, List.set_cons_succ]
          refine wl_step (st_val rfl (v_moveT (.inr rfl) rfl) ?_)
          simp only [Act.put, List.setIfInBounds_toArray, List.set_cons_zero, List.set_cons_succ]
          refine wl_step (st_val rfl (v_moveT (.inr rfl) rfl) ?_)
          simp only [Act.put, List.setIfInBounds_toArray, List.set_cons_zero, List.set_cons_succ]
          repeat ((fail_if_success (with_reducible show wpList _ _ _ (List.cons _ _) _ _)); (fail_if_success (with_reducible show Code.wp _ (Code.region _ _ true) _ _ _)); go_step)
          refine wl_step (st_val rfl (v_moveT (.inl rfl) rfl) ?_)
          simp only [Act.put, List.setIfInBounds_toArray, List.set_cons_zero, List.set_cons_succ]
          refine wl_step (st_val rfl (v_indexAs (s := 2) rfl rfl rfl Try.underlying84 (by kernel_rfl) (by first | assumption | omega)) ?_)
          simp only [Act.put, List.setIfInBounds_toArray, List.set_cons_zero, List.set_cons_succ]
          refine wl_step (st_val rfl (v_field0 (s := 0) rfl rfl Try.underlying83 rfl (by kernel_rfl) rfl) ?_)
          simp only [Act.put, List.setIfInBounds_toArray, List.set_cons_zero, List.set_cons_succ]
          refine wl_step (st_val rfl (v_cell rfl rfl Try.underlying23 rfl (Env.cellv (i := 1) hE0 rfl (ints_get? _ _ _ (by first | assumption | omega | (simp; done) | (simp; omega))))) ?_)
          simp only [Act.put, List.setIfInBounds_toArray, List.set_cons_zero, List.set_cons_succ]
          rw [Hhi.out]
          refine wl_step (st_val rfl (v_moveT (.inl rfl) rfl) ?_)
          simp only [Act.put, List.setIfInBounds_toArray, List.set_cons_zero, List.set_cons_succ]
          refine wl_step (st_val rfl (v_add rfl rfl rfl (by first | exact w_u64 (by omega) | exact w_u64m _)) ?_)
          simp only [Act.put, List.setIfInBounds_toArray, List.set_cons_zero, List.set_cons_succ]
          rw [Hw2.out]
          refine wl_step (st_val rfl (v_moveT (.inr rfl) rfl) ?_)
          simp only [Act.put, List.setIfInBounds_toArray, List.set_cons_zero, List.set_cons_succ]
          repeat ((fail_if_success (with_reducible show wpList _ _ _ (List.cons _ _) _ _)); (fail_if_success (with_reducible show Code.wp _ (Code.region _ _ true) _ _ _)); go_step)
          refine wl_step (st_val rfl (v_moveT (.inl rfl) rfl) ?_)
          simp only [Act.put, List.setIfInBounds_toArray, List.set_cons_zero, List.set_cons_succ]
          refine wl_step (st_val rfl (v_moveT (.inl rfl) rfl) ?_)
          simp only [Act.put, List.setIfInBounds_toArray, List.set_cons_zero, List.set_cons_succ]
          refine wl_step (st_val rfl (v_mask (c := 2251799813685247) (s := 51) (d := 2251799813685248) rfl rfl rfl (by decide) (by decide) rfl (by simp only [IntKind.bits]; omega) (by decide)) ?_)
          simp only [Act.put, List.setIfInBounds_toArray, List.set_cons_zero, List.set_cons_succ]
          rw [Hw4.out]
          refine wl_step (st_val rfl (v_field0 (s := 4) rfl rfl Try.underlying26 rfl (by kernel_rfl) rfl) ?_)
          simp only [Act.put, List.setIfInBounds_toArray, List.set_cons_zero, List.set_cons_succ]
          refine wl_step (st_val rfl (v_indexA0 rfl rfl rfl Try.underlying24 (by kernel_rfl) (by first | assumption | omega)) ?_)
          simp only [Act.put, List.setIfInBounds_toArray, List.set_cons_zero, List.set_cons_succ]
          refine wl_step (st_putN (i := 0) hE0 rfl rfl rfl rfl rfl (by kernel_rfl) (by first | assumption | omega | (simp only [List.length_set, List.length_replicate]; first | assumption | omega)) ?_)
          intro w1 hE1
          clear hE0
          simp only [List.set_cons_zero, List.set_cons_succ] at hE1
          simp only [Act.put, List.setIfInBounds_toArray, List.set_cons_zero, List.set_cons_succ]
          repeat ((fail_if_success (with_reducible show wpList _ _ _ (List.cons _ _) _ _)); (fail_if_success (with_reducible show Code.wp _ (Code.region _ _ true) _ _ _)); go_step)
          refine wl_step (st_val rfl (v_moveT (.inl rfl) rfl) ?_)
          simp only [Act.put, List.setIfInBounds_toArray, List.set_cons_zero, List.set_cons_succ]
          refine wl_step (st_val rfl (v_shlC (s := 13) (d := 8192) rfl rfl rfl (by decide) (by decide) (by first | exact w_u64 (by omega) | exact w_u64m _)) ?_)
          simp only [Act.put, List.setIfInBounds_toArray, List.set_cons_zero, List.set_cons_succ]
          refine wl_step (st_val rfl (v_moveT (.inl rfl) rfl) ?_)
          simp only [Act.put, List.setIfInBounds_toArray, List.set_cons_zero, List.set_cons_succ]
          refine wl_step (st_val rfl (v_shrC (s := 51) (d := 2251799813685248) rfl rfl rfl (by decide) (by decide)) ?_)
          simp only [Act.put, List.setIfInBounds_toArray, List.set_cons_zero, List.set_cons_succ]
          refine wl_step (st_val rfl (v_orAdd rfl rfl rfl hw3 hm2) ?_)
          simp only [Act.put, List.setIfInBounds_toArray, List.set_cons_zero, List.set_cons_succ]
          rw [Hw5.out]
          refine wl_step (st_val rfl (v_moveT (.inr rfl) rfl) ?_)
          simp only [Act.put, List.setIfInBounds_toArray, List.set_cons_zero, List.set_cons_succ]
          repeat ((fail_if_success (with_reducible show wpList _ _ _ (List.cons _ _) _ _)); (fail_if_success (with_reducible show Code.wp _ (Code.region _ _ true) _ _ _)); go_step)
          refine wl_step (st_val rfl (v_add (n := 1) rfl rfl rfl (w_i64 (by omega))) ?_)
          simp only [Act.put, List.setIfInBounds_toArray, List.set_cons_zero, List.set_cons_succ]
          refine wl_step (st_val rfl (v_moveT (.inl rfl) rfl) ?_)
          simp only [Act.put, List.setIfInBounds_toArray, List.set_cons_zero, List.set_cons_succ]
          go_wp2
          go_roundw
          case rel => exact ⟨k + 1, by omega, rfl, by rw [Hos.out.1], by rw [fillR_set (F := outF A) (v := (Ak + O) % 2251799813685248) (by simp; omega) Hos.out.2.symm] at hE1; exact hE1⟩
          case measure => simp [intOf]; omega
        · have hk' : k = 5 := by omega
          subst hk'
          have e : fillR (outF A) (List.replicate 5 0) 5 = (List.range 5).map (outF A) := fillR_full (outF A) (List.replicate 5 0)
          rw [e] at hE0
          have hO := HO.out 5 (by decide)
          have hlk := last_key hO (outF_lt A 0)
          have h1 := outF_lt A 1
          have hcw : carW (mulLo (overF A 5) 19) (outF A 0) 0 ≤ 1 := carW_le (mulLo_lt _ _) (by omega) (by decide)
          have hml : mulLo (overF A 5) 19 < 18446744073709551616 := mulLo_lt _ _
          obtain ⟨O, hOe⟩ : ∃ O, O = overF A 5 := ⟨_, rfl⟩
          have hmo : Hid (((((List.range 5).map (outF A)).set 0 ((O * 19 + outF A 0) % 2251799813685248)).set 1 (outF A 1 + (O * 19 + outF A 0) / 2251799813685248)) = mulOut A) := Lib.hid (by rw [hOe]; rfl)
          have hr0 : ((List.range 5).map (outF A)).getD 0 0 = outF A 0 := rfl
          have hr1 : ∀ v, (((List.range 5).map (outF A)).set 0 v).getD 1 0 = outF A 1 := fun _ => rfl
          have hrl : ((List.range 5).map (outF A)).length = 5 := rfl
          have hmol : (mulOut A).length = 5 := rfl
          have hcl : (carryL (mulOut A)).length = 5 := rfl
          rw [← hOe] at hlk hcw hml hO ⊢
          obtain ⟨hw1, hw2, hw3, hw4, hw5⟩ := hlk
          have hgiv : ∀ w, Gives 65 #[.int .u64 O, .int .u64 (19 : Nat)] w (.tuple #[.int .u64 (mulHi O 19 : Nat), .int .u64 (mulLo O 19 : Nat)]) := fun w => Mul64_gives O 19 (by omega) (by decide) w
          have Hgiv := Lib.hid hgiv
          have Hw1 := Lib.hid hw1
          have Hw2 := Lib.hid hw2
          have Hw4 := Lib.hid hw4
          have Hw5 := Lib.hid hw5
          have Hr0 := Lib.hid hr0
          have Hr1 := Lib.hid hr1
          have hmh : (O * 19 + outF A 0) % 18446744073709551616 < 18446744073709551616 := Nat.mod_lt _ (by decide)
          have hm2 : (O * 19 + outF A 0) % 18446744073709551616 / 2251799813685248 < 8192 := by omega
          have hah : mulHi O 19 + carW (mulLo O 19) (outF A 0) 0 < 18446744073709551616 := by rw [hw2]; omega
          clear hw1 hw2 hw4 hw5 hr0 hr1 hgiv hOe
          repeat ((fail_if_success (with_reducible show wpList _ _ _ (List.cons _ _) _ _)); (fail_if_success (with_reducible show Code.wp _ (Code.region _ _ true) _ _ _)); go_step)
          refine wl_step (st_val rfl (v_lss (n := 5) rfl rfl rfl) ?_)
          simp only [Act.put, List.setIfInBounds_toArray, List.set_cons_zero, List.set_cons_succ]
          repeat ((fail_if_success (with_reducible show wpList _ _ _ (List.cons _ _) _ _)); (fail_if_success (with_reducible show Code.wp _ (Code.region _ _ true) _ _ _)); go_step)
          refine wl_step (st_val rfl (v_moveT (.inl rfl) rfl) ?_)
          simp only [Act.put, List.setIfInBounds_toArray, List.set_cons_zero, List.set_cons_succ]
          refine wl_step (st_gives hE0 rfl (run_call rfl Try.call65) (Hgiv.out _) ?_)
          intro w1 hb1 hE1
          clear hE0
          simp only [Act.put, List.setIfInBounds_toArray, List.set_cons_zero, List.set_cons_succ]
          refine wl_step (st_val rfl (v_moveT (.inl rfl) rfl) ?_)
          simp only [Act.put, List.setIfInBounds_toArray, List.set_cons_zero, List.set_cons_succ]
          refine wl_step (st_val rfl (v_extract rfl rfl rfl) ?_)
          simp only [Act.put, List.setIfInBounds_toArray, List.set_cons_zero, List.set_cons_succ]
          refine wl_step (st_val rfl (v_extract rfl rfl rfl) ?_)
          simp only [Act.put, List.setIfInBounds_toArray, List.set_cons_zero, List.set_cons_succ]
          refine wl_step (st_val rfl (v_moveT (.inr rfl) rfl) ?_)
          simp only [Act.put, List.setIfInBounds_toArray, List.set_cons_zero, List.set_cons_succ]
          refine wl_step (st_val rfl (v_moveT (.inr rfl) rfl) ?_)
          simp only [Act.put, List.setIfInBounds_toArray, List.set_cons_zero, List.set_cons_succ]
          repeat ((fail_if_success (with_reducible show wpList _ _ _ (List.cons _ _) _ _)); (fail_if_success (with_reducible show Code.wp _ (Code.region _ _ true) _ _ _)); go_step)
          refine wl_step (st_val rfl (v_moveT (.inl rfl) rfl) ?_)
          simp only [Act.put, List.setIfInBounds_toArray, List.set_cons_zero, List.set_cons_succ]
          refine wl_step (st_val rfl (v_field0 (s := 4) rfl rfl Try.underlying26 rfl (by kernel_rfl) rfl) ?_)
          simp only [Act.put, List.setIfInBounds_toArray, List.set_cons_zero, List.set_cons_succ]
          refine wl_step (st_val rfl (v_indexA0 (j := 0) rfl rfl rfl Try.underlying24 (by kernel_rfl) (by first | assumption | omega)) ?_)
          simp only [Act.put, List.setIfInBounds_toArray, List.set_cons_zero, List.set_cons_succ]
          refine wl_step (st_val rfl (v_cell rfl rfl Try.underlying23 rfl (Env.cellv (i := 0) hE1 rfl (ints_get? _ _ _ (by first | assumption | omega | (simp; done) | (simp; omega))))) ?_)
          simp only [Act.put, List.setIfInBounds_toArray, List.set_cons_zero, List.set_cons_succ]
          rw [Hr0.out]
          refine wl_step (st_val rfl (v_extern rfl (fun w9 => run_Add64 _ _ 0 (by decide) w9)) ?_)
          simp only [Act.put, List.setIfInBounds_toArray, List.set_cons_zero, List.set_cons_succ]
          refine wl_step (st_val rfl (v_moveT (.inl rfl) rfl) ?_)
          simp only [Act.put, List.setIfInBounds_toArray, List.set_cons_zero, List.set_cons_succ]
          refine wl_step (st_val rfl (v_extract rfl rfl rfl) ?_)
          simp only [Act.put, List.setIfInBounds_toArray, List.set_cons_zero, List.set_cons_succ]
          rw [Hw1.out]
          refine wl_step (st_val rfl (v_extract rfl rfl rfl) ?_)
          simp only [Act.put, List.setIfInBounds_toArray, List.set_cons_zero, List.set_cons_succ]
          refine wl_step (st_val rfl (v_moveT (.inr rfl) rfl) ?_)
          simp only [Act.put, List.setIfInBounds_toArray, List.set_cons_zero, List.set_cons_succ]
          refine wl_step (st_val rfl (v_moveT (.inr rfl) rfl) ?_)
          simp only [Act.put, List.setIfInBounds_toArray, List.set_cons_zero, List.set_cons_succ]
          repeat ((fail_if_success (with_reducible show wpList _ _ _ (List.cons _ _) _ _)); (fail_if_success (with_reducible show Code.wp _ (Code.region _ _ true) _ _ _)); go_step)
          refine wl_step (st_val rfl (v_moveT (.inl rfl) rfl) ?_)
          simp only [Act.put, List.setIfInBounds_toArray, List.set_cons_zero, List.set_cons_succ]
          refine wl_step (st_val rfl (v_moveT (.inl rfl) rfl) ?_)
          simp only [Act.put, List.setIfInBounds_toArray, List.set_cons_zero, List.set_cons_succ]
          refine wl_step (st_val rfl (v_add rfl rfl rfl (by first | exact w_u64 (by omega) | exact w_u64m _)) ?_)
          simp only [Act.put, List.setIfInBounds_toArray, List.set_cons_zero, List.set_cons_succ]
          rw [Hw2.out]
          refine wl_step (st_val rfl (v_moveT (.inr rfl) rfl) ?_)
          simp only [Act.put, List.setIfInBounds_toArray, List.set_cons_zero, List.set_cons_succ]
          repeat ((fail_if_success (with_reducible show wpList _ _ _ (List.cons _ _) _ _)); (fail_if_success (with_reducible show Code.wp _ (Code.region _ _ true) _ _ _)); go_step)
          refine wl_step (st_val rfl (v_moveT (.inl rfl) rfl) ?_)
          simp only [Act.put, List.setIfInBounds_toArray, List.set_cons_zero, List.set_cons_succ]
          refine wl_step (st_val rfl (v_mask (c := 2251799813685247) (s := 51) (d := 2251799813685248) rfl rfl rfl (by decide) (by decide) rfl (by simp only [IntKind.bits]; omega) (by decide)) ?_)
          simp only [Act.put, List.setIfInBounds_toArray, List.set_cons_zero, List.set_cons_succ]
          rw [Hw4.out]
          refine wl_step (st_val rfl (v_field0 (s := 4) rfl rfl Try.underlying26 rfl (by kernel_rfl) rfl) ?_)
          simp only [Act.put, List.setIfInBounds_toArray, List.set_cons_zero, List.set_cons_succ]
          refine wl_step (st_val rfl (v_indexA0 (j := 0) rfl rfl rfl Try.underlying24 (by kernel_rfl) (by first | assumption | omega)) ?_)
          simp only [Act.put, List.setIfInBounds_toArray, List.set_cons_zero, List.set_cons_succ]
          refine wl_step (st_putN (i := 0) hE1 rfl rfl rfl rfl rfl (by kernel_rfl) (by first | assumption | omega | (simp only [List.length_set, List.length_replicate]; first | assumption | omega)) ?_)
          intro w2 hE2
          clear hE1
          simp only [List.set_cons_zero, List.set_cons_succ] at hE2
          simp only [Act.put, List.setIfInBounds_toArray, List.set_cons_zero, List.set_cons_succ]
          repeat ((fail_if_success (with_reducible show wpList _ _ _ (List.cons _ _) _ _)); (fail_if_success (with_reducible show Code.wp _ (Code.region _ _ true) _ _ _)); go_step)
          refine wl_step (st_val rfl (v_field0 (s := 4) rfl rfl Try.underlying26 rfl (by kernel_rfl) rfl) ?_)
          simp only [Act.put, List.setIfInBounds_toArray, List.set_cons_zero, List.set_cons_succ]
          refine wl_step (st_val rfl (v_indexA0 (j := 1) rfl rfl rfl Try.underlying24 (by kernel_rfl) (by first | assumption | omega)) ?_)
          simp only [Act.put, List.setIfInBounds_toArray, List.set_cons_zero, List.set_cons_succ]
          refine wl_step (st_val rfl (v_cell rfl rfl Try.underlying23 rfl (Env.cellv (i := 0) hE2 rfl (ints_get? _ _ _ (by first | assumption | omega | (simp; done) | (simp; omega))))) ?_)
          simp only [Act.put, List.setIfInBounds_toArray, List.set_cons_zero, List.set_cons_succ]
          rw [Hr1.out]
          refine wl_step (st_val rfl (v_moveT (.inl rfl) rfl) ?_)
          simp only [Act.put, List.setIfInBounds_toArray, List.set_cons_zero, List.set_cons_succ]
          refine wl_step (st_val rfl (v_shlC (s := 13) (d := 8192) rfl rfl rfl (by decide) (by decide) (by first | exact w_u64 (by omega) | exact w_u64m _)) ?_)
          simp only [Act.put, List.setIfInBounds_toArray, List.set_cons_zero, List.set_cons_succ]
          refine wl_step (st_val rfl (v_moveT (.inl rfl) rfl) ?_)
          simp only [Act.put, List.setIfInBounds_toArray, List.set_cons_zero, List.set_cons_succ]
          refine wl_step (st_val rfl (v_shrC (s := 51) (d := 2251799813685248) rfl rfl rfl (by decide) (by decide)) ?_)
          simp only [Act.put, List.setIfInBounds_toArray, List.set_cons_zero, List.set_cons_succ]
          refine wl_step (st_val rfl (v_orAdd rfl rfl rfl hw3 hm2) ?_)
          simp only [Act.put, List.setIfInBounds_toArray, List.set_cons_zero, List.set_cons_succ]
          rw [Hw5.out]
          refine wl_step (st_val rfl (v_add rfl rfl rfl (by first | exact w_u64 (by omega) | exact w_u64m _)) ?_)
          simp only [Act.put, List.setIfInBounds_toArray, List.set_cons_zero, List.set_cons_succ]
          refine wl_step (st_val rfl (v_field0 (s := 4) rfl rfl Try.underlying26 rfl (by kernel_rfl) rfl) ?_)
          simp only [Act.put, List.setIfInBounds_toArray, List.set_cons_zero, List.set_cons_succ]
          refine wl_step (st_val rfl (v_indexA0 (j := 1) rfl rfl rfl Try.underlying24 (by kernel_rfl) (by first | assumption | omega)) ?_)
          simp only [Act.put, List.setIfInBounds_toArray, List.set_cons_zero, List.set_cons_succ]
          refine wl_step (st_putN (i := 0) hE2 rfl rfl rfl rfl rfl (by kernel_rfl) (by first | assumption | omega | (simp only [List.length_set, List.length_replicate]; first | assumption | omega)) ?_)
          intro w3 hE3
          clear hE2
          simp only [List.set_cons_zero, List.set_cons_succ] at hE3
          simp only [Act.put, List.setIfInBounds_toArray, List.set_cons_zero, List.set_cons_succ]
          rw [hmo.out] at hE3
          repeat ((fail_if_success (with_reducible show wpList _ _ _ (List.cons _ _) _ _)); (fail_if_success (with_reducible show Code.wp _ (Code.region _ _ true) _ _ _)); go_step)
          refine wl_step (st_val rfl (v_load (i := 0) hE3 rfl rfl rfl Try.underlying26 rfl (sz_of (n := 5) (by kernel_rfl) (by first | (simp only [ints_size, digs_length, List.length_replicate, List.length_cons, List.length_nil]; done) | (simp only [ints_size, digs_length, List.length_replicate, List.length_cons, List.length_nil, List.length_set, List.length_append]; omega) | rfl))) ?_)
          simp only [Act.put, List.setIfInBounds_toArray, List.set_cons_zero, List.set_cons_succ]
          refine wl_step (st_gives hE3 rfl (run_call rfl Try.call62) (HC.out _) ?_)
          intro w4 hb4 hE4
          clear hE3
          simp only [Act.put, List.setIfInBounds_toArray, List.set_cons_zero, List.set_cons_succ]
          refine wl_step (st_store (i := 2) hE4 rfl rfl rfl rfl rfl (sz_of (n := 5) (by kernel_rfl) (by first | (simp only [ints_size, digs_length, List.length_replicate, List.length_cons, List.length_nil]; done) | (simp only [ints_size, digs_length, List.length_replicate, List.length_cons, List.length_nil, List.length_set, List.length_append]; omega) | rfl)) (by first | (simp only [ints_size, digs_length, List.length_replicate, List.length_cons, List.length_nil]; done) | (simp only [ints_size, digs_length, List.length_replicate, List.length_cons, List.length_nil, List.length_set, List.length_append]; omega) | rfl) (by first | exact ints_one _ _ | decide | simp [*]) ?_)
          intro w5 hE5
          clear hE4
          simp only [List.set_cons_zero, List.set_cons_succ] at hE5
          simp only [Act.put, List.setIfInBounds_toArray, List.set_cons_zero, List.set_cons_succ]
          repeat ((fail_if_success (with_reducible show wpList _ _ _ (List.cons _ _) _ _)); (fail_if_success (with_reducible show Code.wp _ (Code.region _ _ true) _ _ _)); go_step)
          refine bodyPost_ret (results_cell_row rfl _ _ _ _ _ (0, 0) _ rfl (hE5.get (i := 2) rfl) Try.underlying26 rfl (sz_of (n := 5) (by kernel_rfl) (by first | (simp only [ints_size, digs_length, List.length_replicate, List.length_cons, List.length_nil]; done) | (simp only [ints_size, digs_length, List.length_replicate, List.length_cons, List.length_nil, List.length_set, List.length_append]; omega) | rfl))) rfl ⟨rfl, hE5.below⟩
theorem Mul_any {l m : List Nat} (hl : Fe l) (hm : Fe m) : ∃ c, Fe c ∧ fval c % pN = fval l * fval m % pN ∧ ∀ w, Gives 34 #[elem l, elem m] w (elem c) := by
  have hA : ∀ j, (prodAcc l m 25).getD j 0 < 4056481920730334084789450257203201 := fun j => Nat.lt_of_le_of_lt (prodAcc_lt hl hm 25 j) (by decide)
  have hlen := prodAcc_len l m 25
  exact ⟨_, carry_Fe rfl (mulOut_lt (over_lt hA 5 (Nat.le_of_eq hlen.symm))), by rw [carry_val rfl, mulOut_val hlen, prod_val hl.1 hm.1], Mul_walk hl hm⟩
end Go.Proofs.Ytmebjoehmheknaa
