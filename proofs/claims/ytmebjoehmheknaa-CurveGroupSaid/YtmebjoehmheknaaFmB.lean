/-
  Layer 4, the document's answer: a difference, the number below p, the sum; bytes.
-/
import Derived.Test.YtmebjoehmheknaaFmA
namespace Go.Proofs.Ytmebjoehmheknaa
open Go.RowKit
set_option linter.unusedVariables false
set_option linter.unusedSimpArgs false

/-- Digits that are filled from the lowest one on. -/
structure Fill (i : Nat) (X : List Nat) : Prop where
  len : X.length = 8
  dg : Digs 4294967296 X
  zero : ∀ j, i ≤ j → X.getD j 0 = 0
theorem Fill.start : Fill 0 (List.replicate 8 0) := ⟨rfl, Digs.replicate (by decide) _, fun j _ => by rw [List.getD_eq_getElem?_getD, List.getElem?_replicate]; split <;> rfl⟩
theorem Fill.step {i d : Nat} {X : List Nat} (h : Fill i X) (hi : i < 8) (hd : d < 4294967296) : Fill (i + 1) (X.set i d) ∧ val 4294967296 (X.set i d) = val 4294967296 X + 4294967296 ^ i * d := by
  have hlt : i < X.length := by rw [h.len]; exact hi
  refine ⟨⟨by rw [List.length_set, h.len], h.dg.set _ hd, fun j hj => ?_⟩, ?_⟩
  · rw [List.getD_eq_getElem?_getD, List.getElem?_set_ne (by omega), ← List.getD_eq_getElem?_getD]
    exact h.zero j (by omega)
  · have hv := val_set (B := 4294967296) X i d hlt
    have hz := h.zero i (Nat.le_refl _)
    have e : X[i] = 0 := by rw [← hz]; simp [List.getD, hlt]
    rw [e, Nat.mul_zero, Nat.add_zero] at hv
    exact hv
theorem Fill.lt {X : List Nat} (h : Fill 8 X) : val 4294967296 X < big8 := by
  have := val_lt h.dg
  rw [h.len] at this
  rw [big8_eq]
  exact this
theorem Fill.eq {X : List Nat} (h : Fill 8 X) : X = digs 4294967296 8 (val 4294967296 X) := (digs_val' h.dg h.len).symm

theorem mod_digit (m i : Nat) : m % 4294967296 ^ (i + 1) = m % 4294967296 ^ i + 4294967296 ^ i * (m / 4294967296 ^ i % 4294967296) := by rw [Nat.pow_succ, Nat.mod_mul]

theorem minus_digit {a b u : Nat} (ha : a < 4294967296) (hb : b < 4294967296) (hu : u ≤ 1) :
    ((a + 18446744073709551616 - b) % 18446744073709551616 + 18446744073709551616 - u) % 18446744073709551616 % 4294967296 + b + u = a + 4294967296 * (((a + 18446744073709551616 - b) % 18446744073709551616 + 18446744073709551616 - u) % 18446744073709551616 / 9223372036854775808) ∧
    ((a + 18446744073709551616 - b) % 18446744073709551616 + 18446744073709551616 - u) % 18446744073709551616 / 9223372036854775808 ≤ 1 := by omega
theorem minus_step {V N M P d b a u u' : Nat} (h : V + N = M + P * u) (hd : d + b + u = a + 4294967296 * u') : V + P * d + (N + P * b) = M + P * a + P * 4294967296 * u' := by
  have e : P * (d + b + u) = P * (a + 4294967296 * u') := by rw [hd]
  simp only [Nat.mul_add] at e
  rw [← Nat.mul_assoc] at e
  omega
theorem minus_last {V m n u : Nat} (hV : V < big8) (hm : m < big8) (hn : n < big8) (hu : u ≤ 1) (h : V + n = m + big8 * u) : V = (m + big8 - n) % big8 ∧ decide (u = 1) = decide (m < n) := by
  rcases (show u = 0 ∨ u = 1 by omega) with rfl | rfl
  · rw [Nat.mul_zero, Nat.add_zero] at h
    refine ⟨?_, ?_⟩
    · have e : m + big8 - n = V + big8 := by omega
      rw [e, Nat.add_mod_right, Nat.mod_eq_of_lt hV]
    · rw [decide_eq_false (by omega : ¬ m < n)]
      rfl
  · rw [Nat.mul_one] at h
    refine ⟨?_, ?_⟩
    · have e : m + big8 - n = V := by omega
      rw [e, Nat.mod_eq_of_lt hV]
    · rw [decide_eq_true (by omega : m < n)]
      rfl

set_option maxHeartbeats 4000000 in
theorem minus_any {m n : Nat} (hm : m < big8) (hn : n < big8) (w : World) : Gives 74 #[nm m, nm n] w (.tuple #[nm ((m + big8 - n) % big8), .bool (decide (m < n))]) := by
  have hm8 := nm_len m
  have hn8 := nm_len n
  have Hgm := Lib.hid (nm_get m)
  have Hgn := Lib.hid (nm_get n)
  have Hm := Lib.hid hm
  have Hn := Lib.hid hn
  clear hm hn
  have hE0 := Env.nil w
  go_enter Try.func74, Try.ntmps74
  repeat ((fail_if_success (with_reducible show wpList _ _ _ (List.cons _ _) _ _)); (fail_if_success (with_reducible show Code.wp _ (Code.region _ _ true) _ _ _)); go_step)
  refine wl_step (st_boxA hE0 rfl rfl rfl ?_)
  intro g0 w1 hb1 hE1
  clear hE0
  simp only [Act.put, List.setIfInBounds_toArray, List.set_cons_zero, List.set_cons_succ]
  refine wl_step (st_boxA hE1 rfl rfl rfl ?_)
  intro g1 w2 hb2 hE2
  clear hE1
  simp only [Act.put, List.setIfInBounds_toArray, List.set_cons_zero, List.set_cons_succ]
  refine wl_step (st_alloc (zs := ints .u32 (List.replicate 8 0)) hE2 rfl rfl (fun w => by kernel_rfl) ?_)
  intro g2 w3 hb3 hE3
  clear hE2
  simp only [Act.put, List.setIfInBounds_toArray, List.set_cons_zero, List.set_cons_succ]
  refine wl_step (st_val rfl (v_moveC (.inr rfl)) ?_)
  simp only [Act.put, List.setIfInBounds_toArray, List.set_cons_zero, List.set_cons_succ]
  repeat ((fail_if_success (with_reducible show wpList _ _ _ (List.cons _ _) _ _)); (fail_if_success (with_reducible show Code.wp _ (Code.region _ _ true) _ _ _)); go_step)
  refine wl_step (st_alloc (zs := ints .u32 (List.replicate 8 0)) hE3 rfl rfl (fun w => by kernel_rfl) ?_)
  intro g3 w4 hb4 hE4
  clear hE3
  simp only [Act.put, List.setIfInBounds_toArray, List.set_cons_zero, List.set_cons_succ]
  repeat ((fail_if_success (with_reducible show wpList _ _ _ (List.cons _ _) _ _)); (fail_if_success (with_reducible show Code.wp _ (Code.region _ _ true) _ _ _)); go_step)
  refine wl_step (st_val rfl (v_moveC (.inr rfl)) ?_)
  simp only [Act.put, List.setIfInBounds_toArray, List.set_cons_zero, List.set_cons_succ]
  repeat ((fail_if_success (with_reducible show wpList _ _ _ (List.cons _ _) _ _)); (fail_if_success (with_reducible show Code.wp _ (Code.region _ _ true) _ _ _)); go_step)
  refine wl_step (st_val rfl (v_moveC (.inr rfl)) ?_)
  simp only [Act.put, List.setIfInBounds_toArray, List.set_cons_zero, List.set_cons_succ]
  go_wp2
  go_loopw [7, 8] (fun uv i wr => ∃ (K u : Nat) (X : List Nat), K ≤ 8 ∧ i = .int .i64 K ∧ uv = .int .u64 u ∧ u ≤ 1 ∧ Fill K X ∧ Hid (val 4294967296 X + n % 4294967296 ^ K = m % 4294967296 ^ K + 4294967296 ^ K * u) ∧ Env w [⟨g3, 43, ints .u32 X⟩, ⟨g2, 43, ints .u32 (List.replicate 8 0)⟩, ⟨g1, 43, ints .u32 (digs 4294967296 8 n)⟩, ⟨g0, 43, ints .u32 (digs 4294967296 8 m)⟩] wr) (fun _ i _ => 8 - (intOf i).toNat)
  case atStart => exact ⟨0, 0, _, Nat.zero_le _, rfl, rfl, by decide, Fill.start, Lib.hid (by rw [val_replicate, Nat.pow_zero, Nat.mod_one, Nat.mod_one]), hE4⟩
  case round =>
    clear hE4
    obtain ⟨K, u, X, hK, rfl, rfl, hu, hF, hsum, hE0⟩ := hrel
    have hX8 := hF.len
    by_cases hK8 : K < 8
    · have hgm := Lib.hid (Hgm.out K hK8)
      have hgn := Lib.hid (Hgn.out K hK8)
      have ha : m / 4294967296 ^ K % 4294967296 < 4294967296 := Nat.mod_lt _ (by decide)
      have hb : n / 4294967296 ^ K % 4294967296 < 4294967296 := Nat.mod_lt _ (by decide)
      have hdg := minus_digit ha hb hu
      have hm1 := mod_digit m K
      have hn1 := mod_digit n K
      obtain ⟨a, hae⟩ : ∃ a, a = m / 4294967296 ^ K % 4294967296 := ⟨_, rfl⟩
      obtain ⟨b, hbe⟩ : ∃ b, b = n / 4294967296 ^ K % 4294967296 := ⟨_, rfl⟩
      rw [← hae] at hgm ha hdg hm1
      rw [← hbe] at hgn hb hdg hn1
      clear hae hbe
      obtain ⟨d, hde⟩ : ∃ d, d = ((a + 18446744073709551616 - b) % 18446744073709551616 + 18446744073709551616 - u) % 18446744073709551616 := ⟨_, rfl⟩
      rw [← hde] at hdg
      have hd64 : d < 18446744073709551616 := by rw [hde]; exact Nat.mod_lt _ (by decide)
      have hst := hF.step hK8 (show d % 4294967296 < 4294967296 from Nat.mod_lt _ (by decide))
      have hnew : Hid (val 4294967296 (X.set K (d % 4294967296)) + n % 4294967296 ^ (K + 1) = m % 4294967296 ^ (K + 1) + 4294967296 ^ (K + 1) * (d / 9223372036854775808)) := Lib.hid (by
        rw [hst.2, hm1, hn1, Nat.pow_succ]
        exact minus_step hsum.out hdg.1)
      have hF1 := Lib.hid hst.1
      have hu1 := hdg.2
      have Hde := Lib.hid hde
      clear hdg hm1 hn1 hde hst hsum hF
      repeat ((fail_if_success (with_reducible show wpList _ _ _ (List.cons _ _) _ _)); (fail_if_success (with_reducible show Code.wp _ (Code.region _ _ true) _ _ _)); go_step)
      refine wl_step (st_val rfl (v_moveT (.inl rfl) rfl) ?_)
      simp only [Act.put, List.setIfInBounds_toArray, List.set_cons_zero, List.set_cons_succ]
      refine wl_step (st_val rfl (v_lss (n := 8) rfl rfl rfl) ?_)
      simp only [Act.put, List.setIfInBounds_toArray, List.set_cons_zero, List.set_cons_succ]
      repeat ((fail_if_success (with_reducible show wpList _ _ _ (List.cons _ _) _ _)); (fail_if_success (with_reducible show Code.wp _ (Code.region _ _ true) _ _ _)); go_step)
      refine wp_region_B (n := 12) 11 (by kernel_rfl) rfl hE0 ?_
      intro w1 hb1 hE1
      clear hE0
      refine wpB_take (i := 0) (by kernel_rfl) rfl (by kernel_rfl) (fun _ _ _ h => h) rfl (v_moveT (.inl rfl) rfl) ?_
      simp only [Act.put, List.setIfInBounds_toArray, List.set_cons_zero, List.set_cons_succ]
      refine wpB_take (i := 1) (by kernel_rfl) rfl (by kernel_rfl) (fun _ _ _ h => h) rfl (v_indexA0 rfl rfl rfl Try.underlying43 (by kernel_rfl) (by first | assumption | omega)) ?_
      simp only [Act.put, List.setIfInBounds_toArray, List.set_cons_zero, List.set_cons_succ]
      refine wpB_take (i := 2) (by kernel_rfl) rfl (by kernel_rfl) (fun _ _ _ h => h) rfl (v_cell rfl rfl Try.underlying41 rfl (Env.cellv (i := 3) hE1 rfl (ints_get? _ _ _ (by first | assumption | omega | (simp; done) | (simp; omega))))) ?_
      simp only [Act.put, List.setIfInBounds_toArray, List.set_cons_zero, List.set_cons_succ]
      rw [hgm.out]
      refine wpB_take (i := 3) (by kernel_rfl) rfl (by kernel_rfl) (fun _ _ _ h => h) rfl (v_convInt rfl rfl Try.underlying41 Try.underlying23 (by first | exact w_u64 (by omega) | exact w_u64m _)) ?_
      simp only [Act.put, List.setIfInBounds_toArray, List.set_cons_zero, List.set_cons_succ]
      refine wpB_take (i := 4) (by kernel_rfl) rfl (by kernel_rfl) (fun _ _ _ h => h) rfl (v_moveT (.inl rfl) rfl) ?_
      simp only [Act.put, List.setIfInBounds_toArray, List.set_cons_zero, List.set_cons_succ]
      refine wpB_take (i := 5) (by kernel_rfl) rfl (by kernel_rfl) (fun _ _ _ h => h) rfl (v_indexA0 rfl rfl rfl Try.underlying43 (by kernel_rfl) (by first | assumption | omega)) ?_
      simp only [Act.put, List.setIfInBounds_toArray, List.set_cons_zero, List.set_cons_succ]
      refine wpB_take (i := 6) (by kernel_rfl) rfl (by kernel_rfl) (fun _ _ _ h => h) rfl (v_cell rfl rfl Try.underlying41 rfl (Env.cellv (i := 2) hE1 rfl (ints_get? _ _ _ (by first | assumption | omega | (simp; done) | (simp; omega))))) ?_
      simp only [Act.put, List.setIfInBounds_toArray, List.set_cons_zero, List.set_cons_succ]
      rw [hgn.out]
      refine wpB_take (i := 7) (by kernel_rfl) rfl (by kernel_rfl) (fun _ _ _ h => h) rfl (v_convInt rfl rfl Try.underlying41 Try.underlying23 (by first | exact w_u64 (by omega) | exact w_u64m _)) ?_
      simp only [Act.put, List.setIfInBounds_toArray, List.set_cons_zero, List.set_cons_succ]
      refine wpB_take (i := 8) (by kernel_rfl) rfl (by kernel_rfl) (fun _ _ _ h => h) rfl (v_sub rfl rfl rfl (w_u64d _ _ (by omega))) ?_
      simp only [Act.put, List.setIfInBounds_toArray, List.set_cons_zero, List.set_cons_succ]
      refine wpB_take (i := 9) (by kernel_rfl) rfl (by kernel_rfl) (fun _ _ _ h => h) rfl (v_moveT (.inl rfl) rfl) ?_
      simp only [Act.put, List.setIfInBounds_toArray, List.set_cons_zero, List.set_cons_succ]
      refine wpB_take (i := 10) (by kernel_rfl) rfl (by kernel_rfl) (fun _ _ _ h => h) rfl (v_sub rfl rfl rfl (w_u64d _ _ (by omega))) ?_
      simp only [Act.put, List.setIfInBounds_toArray, List.set_cons_zero, List.set_cons_succ]
      rw [← Hde.out]
      refine wpB_step (i := 11) (by kernel_rfl) rfl (st_val rfl (v_moveT (.inr rfl) rfl) ?_)
      refine ⟨fun _ => Below.refl _ _, ?_⟩
      simp only [Act.put, List.setIfInBounds_toArray, List.set_cons_zero, List.set_cons_succ]
      refine wpB_done (by kernel_rfl) ?_ _
      repeat ((fail_if_success (with_reducible show wpList _ _ _ (List.cons _ _) _ _)); (fail_if_success (with_reducible show Code.wp _ (Code.region _ _ true) _ _ _)); go_step)
      refine wl_step (st_val rfl (v_moveT (.inl rfl) rfl) ?_)
      simp only [Act.put, List.setIfInBounds_toArray, List.set_cons_zero, List.set_cons_succ]
      refine wl_step (st_val rfl (v_moveT (.inl rfl) rfl) ?_)
      simp only [Act.put, List.setIfInBounds_toArray, List.set_cons_zero, List.set_cons_succ]
      refine wl_step (st_val rfl (v_convInt rfl rfl Try.underlying23 Try.underlying41 (w_u32m _)) ?_)
      simp only [Act.put, List.setIfInBounds_toArray, List.set_cons_zero, List.set_cons_succ]
      refine wl_step (st_val rfl (v_indexA0 rfl rfl rfl Try.underlying43 (by kernel_rfl) (by first | assumption | omega)) ?_)
      simp only [Act.put, List.setIfInBounds_toArray, List.set_cons_zero, List.set_cons_succ]
      refine wl_step (st_putN (i := 0) hE1 rfl rfl rfl rfl rfl (by kernel_rfl) (by first | assumption | omega | (simp only [List.length_set, List.length_replicate]; first | assumption | omega)) ?_)
      intro w2 hE2
      clear hE1
      simp only [List.set_cons_zero, List.set_cons_succ] at hE2
      simp only [Act.put, List.setIfInBounds_toArray, List.set_cons_zero, List.set_cons_succ]
      repeat ((fail_if_success (with_reducible show wpList _ _ _ (List.cons _ _) _ _)); (fail_if_success (with_reducible show Code.wp _ (Code.region _ _ true) _ _ _)); go_step)
      refine wl_step (st_val rfl (v_moveT (.inl rfl) rfl) ?_)
      simp only [Act.put, List.setIfInBounds_toArray, List.set_cons_zero, List.set_cons_succ]
      refine wl_step (st_val rfl (v_shrC (s := 63) (d := 9223372036854775808) rfl rfl rfl (by decide) (by decide)) ?_)
      simp only [Act.put, List.setIfInBounds_toArray, List.set_cons_zero, List.set_cons_succ]
      refine wl_step (st_val rfl (v_moveT (.inr rfl) rfl) ?_)
      simp only [Act.put, List.setIfInBounds_toArray, List.set_cons_zero, List.set_cons_succ]
      repeat ((fail_if_success (with_reducible show wpList _ _ _ (List.cons _ _) _ _)); (fail_if_success (with_reducible show Code.wp _ (Code.region _ _ true) _ _ _)); go_step)
      refine wl_step (st_val rfl (v_moveT (.inl rfl) rfl) ?_)
      simp only [Act.put, List.setIfInBounds_toArray, List.set_cons_zero, List.set_cons_succ]
      refine wl_step (st_val rfl (v_add (n := 1) rfl rfl rfl (w_i64 (by omega))) ?_)
      simp only [Act.put, List.setIfInBounds_toArray, List.set_cons_zero, List.set_cons_succ]
      refine wl_step (st_val rfl (v_moveT (.inr rfl) rfl) ?_)
      simp only [Act.put, List.setIfInBounds_toArray, List.set_cons_zero, List.set_cons_succ]
      go_wp2
      go_roundw
      case rel => exact ⟨K + 1, _, _, by omega, rfl, rfl, hu1, hF1.out, hnew, hE2⟩
      case measure => simp [intOf]; omega
    · have hK' : K = 8 := by omega
      subst hK'
      have hs := hsum.out
      rw [← big8_eq, Nat.mod_eq_of_lt Hm.out, Nat.mod_eq_of_lt Hn.out] at hs
      have hl := minus_last hF.lt Hm.out Hn.out hu hs
      have hXe := hF.eq
      rw [hl.1] at hXe
      rw [hXe] at hE0
      have Hl2 := Lib.hid hl.2
      have hl8 := nm_len ((m + big8 - n) % big8)
      clear hs hl hXe hsum hF
      repeat ((fail_if_success (with_reducible show wpList _ _ _ (List.cons _ _) _ _)); (fail_if_success (with_reducible show Code.wp _ (Code.region _ _ true) _ _ _)); go_step)
      refine wl_step (st_val rfl (v_moveT (.inl rfl) rfl) ?_)
      simp only [Act.put, List.setIfInBounds_toArray, List.set_cons_zero, List.set_cons_succ]
      refine wl_step (st_val rfl (v_lss (n := 8) rfl rfl rfl) ?_)
      simp only [Act.put, List.setIfInBounds_toArray, List.set_cons_zero, List.set_cons_succ]
      repeat ((fail_if_success (with_reducible show wpList _ _ _ (List.cons _ _) _ _)); (fail_if_success (with_reducible show Code.wp _ (Code.region _ _ true) _ _ _)); go_step)
      refine wl_step (st_val rfl (v_load (i := 0) hE0 rfl rfl rfl Try.underlying43 rfl (sz_of (n := 8) (by kernel_rfl) (by first | (simp only [ints_size, digs_length, List.length_replicate, List.length_cons, List.length_nil]; done) | (simp only [ints_size, digs_length, List.length_replicate, List.length_cons, List.length_nil, List.length_set, List.length_append]; omega) | rfl))) ?_)
      simp only [Act.put, List.setIfInBounds_toArray, List.set_cons_zero, List.set_cons_succ]
      refine wl_step (st_val rfl (v_moveT (.inl rfl) rfl) ?_)
      simp only [Act.put, List.setIfInBounds_toArray, List.set_cons_zero, List.set_cons_succ]
      refine wl_step (st_val rfl (v_eql (n := 1) rfl rfl rfl) ?_)
      simp only [Act.put, List.setIfInBounds_toArray, List.set_cons_zero, List.set_cons_succ]
      rw [Hl2.out]
      refine wl_step (st_store (i := 1) hE0 rfl rfl rfl rfl rfl (sz_of (n := 8) (by kernel_rfl) (by first | (simp only [ints_size, digs_length, List.length_replicate, List.length_cons, List.length_nil]; done) | (simp only [ints_size, digs_length, List.length_replicate, List.length_cons, List.length_nil, List.length_set, List.length_append]; omega) | rfl)) (by first | (simp only [ints_size, digs_length, List.length_replicate, List.length_cons, List.length_nil]; done) | (simp only [ints_size, digs_length, List.length_replicate, List.length_cons, List.length_nil, List.length_set, List.length_append]; omega) | rfl) (by first | exact ints_one _ _ | decide | simp [*]) ?_)
      intro w1 hE1
      clear hE0
      simp only [List.set_cons_zero, List.set_cons_succ] at hE1
      simp only [Act.put, List.setIfInBounds_toArray, List.set_cons_zero, List.set_cons_succ]
      refine wl_step (st_val rfl (v_moveT (.inr rfl) rfl) ?_)
      simp only [Act.put, List.setIfInBounds_toArray, List.set_cons_zero, List.set_cons_succ]
      repeat ((fail_if_success (with_reducible show wpList _ _ _ (List.cons _ _) _ _)); (fail_if_success (with_reducible show Code.wp _ (Code.region _ _ true) _ _ _)); go_step)
      refine bodyPost_ret (results_ct rfl _ _ _ _ _ (0, 0) _ rfl (hE1.get (i := 1) rfl) Try.underlying43 rfl (sz_of (n := 8) (by kernel_rfl) (by first | (simp only [ints_size, digs_length, List.length_replicate, List.length_cons, List.length_nil]; done) | (simp only [ints_size, digs_length, List.length_replicate, List.length_cons, List.length_nil, List.length_set, List.length_append]; omega) | rfl)) rfl) rfl ⟨rfl, hE1.below⟩

theorem down_step {n : Nat} (hn : n < big8) (h : ¬ n < pN) : (n + big8 - pN) % big8 = n - pN ∧ n - pN < n := by
  have hp : pN < big8 := by decide
  have h0 : 0 < pN := by decide
  have e : n + big8 - pN = (n - pN) + big8 := by omega
  rw [e, Nat.add_mod_right, Nat.mod_eq_of_lt (by omega)]
  exact ⟨rfl, by omega⟩

set_option maxHeartbeats 2000000 in
theorem down_any {n : Nat} (hn : n < big8) (w : World) : Gives 71 #[nm n] w (nm (n % pN)) := by
  have hn8 := nm_len n
  have Hn := Lib.hid hn
  clear hn
  have hE0 := Env.nil w
  go_enter Try.func71, Try.ntmps71
  repeat ((fail_if_success (with_reducible show wpList _ _ _ (List.cons _ _) _ _)); (fail_if_success (with_reducible show Code.wp _ (Code.region _ _ true) _ _ _)); go_step)
  refine wl_step (st_boxA hE0 rfl rfl rfl ?_)
  intro g0 w1 hb1 hE1
  clear hE0
  simp only [Act.put, List.setIfInBounds_toArray, List.set_cons_zero, List.set_cons_succ]
  refine wl_step (st_alloc (zs := ints .u32 (List.replicate 8 0)) hE1 rfl rfl (fun w => by kernel_rfl) ?_)
  intro g1 w2 hb2 hE2
  clear hE1
  simp only [Act.put, List.setIfInBounds_toArray, List.set_cons_zero, List.set_cons_succ]
  go_wp2
  go_loopg [] (n) (fun V wr => V < big8 ∧ Hid (V % pN = n % pN) ∧ Env w [⟨g1, 43, ints .u32 (List.replicate 8 0)⟩, ⟨g0, 43, ints .u32 (digs 4294967296 8 V)⟩] wr)
  case atStart => exact ⟨Hn.out, Lib.hid rfl, hE2⟩
  case round =>
    clear hE2
    obtain ⟨hV, hmod, hE0⟩ := hrel
    have hg8 := nm_len gk
    have HL := Lib.hid (fun w => Less_any (m := gk) (n := pN) hV (by decide) w)
    have HM := Lib.hid (fun w => minus_any (m := gk) (n := pN) hV (by decide) w)
    by_cases hlt : gk < pN
    · have hfin : gk = n % pN := by rw [← hmod.out, Nat.mod_eq_of_lt hlt]
      rw [decide_eq_true hlt] at HL
      clear hV hlt hmod HM
      subst hfin
      repeat ((fail_if_success (with_reducible show wpList _ _ _ (List.cons _ _) _ _)); (fail_if_success (with_reducible show Code.wp _ (Code.region _ _ true) _ _ _)); go_step)
      refine wp_region_B (n := 4) 4 (by kernel_rfl) rfl hE0 ?_
      intro w1 hb1 hE1
      clear hE0
      refine wpB_take (i := 0) (by kernel_rfl) rfl (by kernel_rfl) (fun _ _ _ h => h) rfl (v_load (i := 1) hE1 rfl rfl rfl Try.underlying43 rfl (sz_of (n := 8) (by kernel_rfl) (by first | (simp only [ints_size, digs_length, List.length_replicate, List.length_cons, List.length_nil]; done) | (simp only [ints_size, digs_length, List.length_replicate, List.length_cons, List.length_nil, List.length_set, List.length_append]; omega) | rfl))) ?_
      simp only [Act.put, List.setIfInBounds_toArray, List.set_cons_zero, List.set_cons_succ]
      refine wpB_step (i := 1) (by kernel_rfl) rfl (st_gives hE1 rfl (run_call rfl Try.call50) (P_any _) ?_)
      intro w2 hb2 hE2
      clear hE1
      refine ⟨fun _ => hb2, ?_⟩
      simp only [Act.put, List.setIfInBounds_toArray, List.set_cons_zero, List.set_cons_succ]
      refine wpB_step (i := 2) (by kernel_rfl) rfl (st_gives hE2 rfl (run_call rfl Try.call48) (HL.out _) ?_)
      intro w3 hb3 hE3
      clear hE2
      refine ⟨fun _ => hb3, ?_⟩
      simp only [Act.put, List.setIfInBounds_toArray, List.set_cons_zero, List.set_cons_succ]
      refine wpB_take (i := 3) (by kernel_rfl) rfl (by kernel_rfl) (fun _ _ _ h => h) rfl (v_not rfl rfl) ?_
      simp only [Act.put, List.setIfInBounds_toArray, List.set_cons_zero, List.set_cons_succ]
      refine wpB_done (by kernel_rfl) ?_ _
      repeat ((fail_if_success (with_reducible show wpList _ _ _ (List.cons _ _) _ _)); (fail_if_success (with_reducible show Code.wp _ (Code.region _ _ true) _ _ _)); (fail_if_success (with_reducible show Code.wp _ (Code.cond _ _ _) _ _ _)); go_step)
      refine wp_cond_false (by first | rfl | exact congrArg Value.bool (decide_eq_false (by omega))) ?_
      skip
      repeat ((fail_if_success (with_reducible show wpList _ _ _ (List.cons _ _) _ _)); (fail_if_success (with_reducible show Code.wp _ (Code.region _ _ true) _ _ _)); go_step)
      refine wl_step (st_val rfl (v_load (i := 1) hE3 rfl rfl rfl Try.underlying43 rfl (sz_of (n := 8) (by kernel_rfl) (by first | (simp only [ints_size, digs_length, List.length_replicate, List.length_cons, List.length_nil]; done) | (simp only [ints_size, digs_length, List.length_replicate, List.length_cons, List.length_nil, List.length_set, List.length_append]; omega) | rfl))) ?_)
      simp only [Act.put, List.setIfInBounds_toArray, List.set_cons_zero, List.set_cons_succ]
      refine wl_step (st_store (i := 0) hE3 rfl rfl rfl rfl rfl (sz_of (n := 8) (by kernel_rfl) (by first | (simp only [ints_size, digs_length, List.length_replicate, List.length_cons, List.length_nil]; done) | (simp only [ints_size, digs_length, List.length_replicate, List.length_cons, List.length_nil, List.length_set, List.length_append]; omega) | rfl)) (by first | (simp only [ints_size, digs_length, List.length_replicate, List.length_cons, List.length_nil]; done) | (simp only [ints_size, digs_length, List.length_replicate, List.length_cons, List.length_nil, List.length_set, List.length_append]; omega) | rfl) (by first | exact ints_one _ _ | decide | simp [*]) ?_)
      intro w4 hE4
      clear hE3
      simp only [List.set_cons_zero, List.set_cons_succ] at hE4
      simp only [Act.put, List.setIfInBounds_toArray, List.set_cons_zero, List.set_cons_succ]
      repeat ((fail_if_success (with_reducible show wpList _ _ _ (List.cons _ _) _ _)); (fail_if_success (with_reducible show Code.wp _ (Code.region _ _ true) _ _ _)); go_step)
      refine bodyPost_ret (results_cell_row rfl _ _ _ _ _ (0, 0) _ rfl (hE4.get (i := 0) rfl) Try.underlying43 rfl (sz_of (n := 8) (by kernel_rfl) (by first | (simp only [ints_size, digs_length, List.length_replicate, List.length_cons, List.length_nil]; done) | (simp only [ints_size, digs_length, List.length_replicate, List.length_cons, List.length_nil, List.length_set, List.length_append]; omega) | rfl))) rfl ⟨rfl, hE4.below⟩
    · have hd := down_step hV hlt
      rw [decide_eq_false hlt] at HL
      rw [decide_eq_false hlt, hd.1] at HM
      have hnew : Hid ((gk - pN) % pN = n % pN) := Lib.hid (by rw [← hmod.out, Nat.mod_eq_sub_mod (Nat.le_of_not_lt hlt)])
      have hlt2 := hd.2
      have hV2 : gk - pN < big8 := by omega
      have hg9 := nm_len (gk - pN)
      clear hd hmod hlt hV
      repeat ((fail_if_success (with_reducible show wpList _ _ _ (List.cons _ _) _ _)); (fail_if_success (with_reducible show Code.wp _ (Code.region _ _ true) _ _ _)); go_step)
      refine wp_region_B (n := 4) 4 (by kernel_rfl) rfl hE0 ?_
      intro w1 hb1 hE1
      clear hE0
      refine wpB_take (i := 0) (by kernel_rfl) rfl (by kernel_rfl) (fun _ _ _ h => h) rfl (v_load (i := 1) hE1 rfl rfl rfl Try.underlying43 rfl (sz_of (n := 8) (by kernel_rfl) (by first | (simp only [ints_size, digs_length, List.length_replicate, List.length_cons, List.length_nil]; done) | (simp only [ints_size, digs_length, List.length_replicate, List.length_cons, List.length_nil, List.length_set, List.length_append]; omega) | rfl))) ?_
      simp only [Act.put, List.setIfInBounds_toArray, List.set_cons_zero, List.set_cons_succ]
      refine wpB_step (i := 1) (by kernel_rfl) rfl (st_gives hE1 rfl (run_call rfl Try.call50) (P_any _) ?_)
      intro w2 hb2 hE2
      clear hE1
      refine ⟨fun _ => hb2, ?_⟩
      simp only [Act.put, List.setIfInBounds_toArray, List.set_cons_zero, List.set_cons_succ]
      refine wpB_step (i := 2) (by kernel_rfl) rfl (st_gives hE2 rfl (run_call rfl Try.call48) (HL.out _) ?_)
      intro w3 hb3 hE3
      clear hE2
      refine ⟨fun _ => hb3, ?_⟩
      simp only [Act.put, List.setIfInBounds_toArray, List.set_cons_zero, List.set_cons_succ]
      refine wpB_take (i := 3) (by kernel_rfl) rfl (by kernel_rfl) (fun _ _ _ h => h) rfl (v_not rfl rfl) ?_
      simp only [Act.put, List.setIfInBounds_toArray, List.set_cons_zero, List.set_cons_succ]
      refine wpB_done (by kernel_rfl) ?_ _
      repeat ((fail_if_success (with_reducible show wpList _ _ _ (List.cons _ _) _ _)); (fail_if_success (with_reducible show Code.wp _ (Code.region _ _ true) _ _ _)); (fail_if_success (with_reducible show Code.wp _ (Code.cond _ _ _) _ _ _)); go_step)
      refine wp_cond_true (by first | rfl | exact congrArg Value.bool (decide_eq_true (by omega))) ?_
      skip
      repeat ((fail_if_success (with_reducible show wpList _ _ _ (List.cons _ _) _ _)); (fail_if_success (with_reducible show Code.wp _ (Code.region _ _ true) _ _ _)); go_step)
      refine wp_region_env 6 (by kernel_rfl) (by kernel_rfl) (fun _ _ d _ _ h => by cases d <;> exact h) hE3 ?_
      refine headRun_val (fun w9 hW => (v_load (i := 1) hW rfl rfl rfl Try.underlying43 rfl (sz_of (n := 8) (by kernel_rfl) (by first | (simp only [ints_size, digs_length, List.length_replicate, List.length_cons, List.length_nil]; done) | (simp only [ints_size, digs_length, List.length_replicate, List.length_cons, List.length_nil, List.length_set, List.length_append]; omega) | rfl))) w9 (Below.refl _ _)) ?_
      simp only [Act.put, List.setIfInBounds_toArray, List.set_cons_zero, List.set_cons_succ]
      refine headRun_call (fun w1 => run_call rfl Try.call50) (fun w1 hW => P_any _) ?_
      simp only [Act.put, List.setIfInBounds_toArray, List.set_cons_zero, List.set_cons_succ]
      refine headRun_call (fun w1 => run_call rfl Try.call74) (fun w1 hW => HM.out _) ?_
      simp only [Act.put, List.setIfInBounds_toArray, List.set_cons_zero, List.set_cons_succ]
      refine headRun_val (fun w9 hW => (v_moveT (.inl rfl) rfl) w9 (Below.refl _ _)) ?_
      simp only [Act.put, List.setIfInBounds_toArray, List.set_cons_zero, List.set_cons_succ]
      refine headRun_val (fun w9 hW => (v_extract rfl rfl rfl) w9 (Below.refl _ _)) ?_
      simp only [Act.put, List.setIfInBounds_toArray, List.set_cons_zero, List.set_cons_succ]
      refine headRun_val (fun w9 hW => (v_extract rfl rfl rfl) w9 (Below.refl _ _)) ?_
      simp only [Act.put, List.setIfInBounds_toArray, List.set_cons_zero, List.set_cons_succ]
      refine headRun_nil (endK0 ?_)
      intro  w4 hE4
      clear hE3
      simp only [List.drop_succ_cons, List.drop_zero, Act.put, List.setIfInBounds_toArray, List.set_cons_zero, List.set_cons_succ]
      refine wl_step (st_store (i := 1) hE4 rfl rfl rfl rfl rfl (sz_of (n := 8) (by kernel_rfl) (by first | (simp only [ints_size, digs_length, List.length_replicate, List.length_cons, List.length_nil]; done) | (simp only [ints_size, digs_length, List.length_replicate, List.length_cons, List.length_nil, List.length_set, List.length_append]; omega) | rfl)) (by first | (simp only [ints_size, digs_length, List.length_replicate, List.length_cons, List.length_nil]; done) | (simp only [ints_size, digs_length, List.length_replicate, List.length_cons, List.length_nil, List.length_set, List.length_append]; omega) | rfl) (by first | exact ints_one _ _ | decide | simp [*]) ?_)
      intro w5 hE5
      clear hE4
      simp only [List.set_cons_zero, List.set_cons_succ] at hE5
      simp only [Act.put, List.setIfInBounds_toArray, List.set_cons_zero, List.set_cons_succ]
      go_wp2
      go_roundg (gk - pN)
      case measure => exact hlt2
      case rel => exact ⟨hV2, hnew, hE5⟩
end Go.Proofs.Ytmebjoehmheknaa
