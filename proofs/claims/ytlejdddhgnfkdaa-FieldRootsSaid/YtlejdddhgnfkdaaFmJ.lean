/-
  Layer 4, the document's answer: a number halved k times, the walk.
-/
import Derived.Test.YtlejdddhgnfkdaaFmI
namespace Go.Proofs.Ytlejdddhgnfkdaa
open Go.RowKit
set_option linter.unusedVariables false
set_option linter.unusedSimpArgs false

set_option maxHeartbeats 4000000 in
theorem shift_any {n k : Nat} (hn : n < big8) (hk : k < 4611686018427387904) (w : World) : Gives 47 #[nm n, .int .i64 (k : Int)] w (nm (n / 2 ^ k)) := by
  have hn8 := nm_len n
  have Hn := Lib.hid hn
  clear hn
  have hE0 := Env.nil w
  go_enter Try.func47, Try.ntmps47
  repeat ((fail_if_success (with_reducible show wpList _ _ _ (List.cons _ _) _ _)); (fail_if_success (with_reducible show Code.wp _ (Code.region _ _ true) _ _ _)); go_step)
  refine wl_step (st_boxA hE0 rfl rfl rfl ?_)
  intro g0 w1 hb1 hE1
  clear hE0
  simp only [Act.put, List.setIfInBounds_toArray, List.set_cons_zero, List.set_cons_succ]
  refine wl_step (st_alloc (zs := ints .u32 (List.replicate 8 0)) hE1 rfl rfl (fun w => by kernel_rfl) ?_)
  intro g1 w2 hb2 hE2
  clear hE1
  simp only [Act.put, List.setIfInBounds_toArray, List.set_cons_zero, List.set_cons_succ]
  repeat ((fail_if_success (with_reducible show wpList _ _ _ (List.cons _ _) _ _)); (fail_if_success (with_reducible show Code.wp _ (Code.region _ _ true) _ _ _)); go_step)
  refine wl_step (st_val rfl (v_moveC (.inr rfl)) ?_)
  simp only [Act.put, List.setIfInBounds_toArray, List.set_cons_zero, List.set_cons_succ]
  go_wp2
  go_loopw [5] (fun i wr => ∃ (J : Nat), J ≤ k ∧ i = .int .i64 J ∧ Env w [⟨g1, 38, ints .u32 (List.replicate 8 0)⟩, ⟨g0, 38, ints .u32 (digs 4294967296 8 (n / 2 ^ J))⟩] wr) (fun i _ => k - (intOf i).toNat)
  case atStart => exact ⟨0, Nat.zero_le _, rfl, by rw [Nat.pow_zero, Nat.div_one]; exact hE2⟩
  case round =>
    clear hE2
    obtain ⟨J, hJ, rfl, hE0⟩ := hrel
    by_cases hJk : J < k
    · have hA : n / 2 ^ J < big8 := Nat.lt_of_le_of_lt (Nat.div_le_self _ _) Hn.out
      have hnext : n / 2 ^ (J + 1) = n / 2 ^ J / 2 := by rw [Nat.pow_succ, ← Nat.div_div_eq_div_mul]
      obtain ⟨A, hAe⟩ : ∃ A, n / 2 ^ J = A := ⟨_, rfl⟩
      rw [hAe] at hA hnext hE0
      have Hnext := Lib.hid hnext
      have HA := Lib.hid hA
      have hA8 := nm_len A
      have hst : Env w [⟨g1, 38, ints .u32 (List.replicate 8 0)⟩, ⟨g0, 38, ints .u32 (digs 4294967296 8 (halfAt A 8))⟩] wr := by rw [halfAt_start hA]; exact hE0
      have h0 : 0 = A / 4294967296 ^ 8 % 2 := by rw [← big8_eq, Nat.div_eq_of_lt hA]
      have H0 := Lib.hid h0
      clear hnext hAe hA hE0 h0
      have hE0 := hst
      clear hst
      repeat ((fail_if_success (with_reducible show wpList _ _ _ (List.cons _ _) _ _)); (fail_if_success (with_reducible show Code.wp _ (Code.region _ _ true) _ _ _)); go_step)
      refine wl_step (st_val rfl (v_moveT (.inl rfl) rfl) ?_)
      simp only [Act.put, List.setIfInBounds_toArray, List.set_cons_zero, List.set_cons_succ]
      refine wl_step (st_val rfl (v_moveT (.inl rfl) rfl) ?_)
      simp only [Act.put, List.setIfInBounds_toArray, List.set_cons_zero, List.set_cons_succ]
      refine wl_step (st_val rfl (v_lss rfl rfl rfl) ?_)
      simp only [Act.put, List.setIfInBounds_toArray, List.set_cons_zero, List.set_cons_succ]
      repeat ((fail_if_success (with_reducible show wpList _ _ _ (List.cons _ _) _ _)); (fail_if_success (with_reducible show Code.wp _ (Code.region _ _ true) _ _ _)); go_step)
      refine wl_step (st_val rfl (v_moveC (.inr rfl)) ?_)
      simp only [Act.put, List.setIfInBounds_toArray, List.set_cons_zero, List.set_cons_succ]
      repeat ((fail_if_success (with_reducible show wpList _ _ _ (List.cons _ _) _ _)); (fail_if_success (with_reducible show Code.wp _ (Code.region _ _ true) _ _ _)); go_step)
      refine wl_step (st_val rfl (v_moveC (.inr rfl)) ?_)
      simp only [Act.put, List.setIfInBounds_toArray, List.set_cons_zero, List.set_cons_succ]
      go_wp2
      go_loopw [6, 7] (fun uv i wr => ∃ (K u : Nat), K ≤ 8 ∧ i = .int .i64 ((K : Int) - 1) ∧ uv = .int .u32 u ∧ Hid (u = A / 4294967296 ^ K % 2) ∧ Env w [⟨g1, 38, ints .u32 (List.replicate 8 0)⟩, ⟨g0, 38, ints .u32 (digs 4294967296 8 (halfAt A K))⟩] wr) (fun _ i _ => (intOf i + 1).toNat)
      case atStart => exact ⟨8, 0, Nat.le_refl _, rfl, rfl, H0, hE0⟩
      case round =>
        clear hE0
        obtain ⟨K, u, hK, rfl, rfl, hu, hE0⟩ := hrel
        cases K with
        | zero =>
          rw [halfAt_end, ← Hnext.out] at hE0
          repeat ((fail_if_success (with_reducible show wpList _ _ _ (List.cons _ _) _ _)); (fail_if_success (with_reducible show Code.wp _ (Code.region _ _ true) _ _ _)); go_step)
          refine wl_step (st_val rfl (v_moveT (.inl rfl) rfl) ?_)
          simp only [Act.put, List.setIfInBounds_toArray, List.set_cons_zero, List.set_cons_succ]
          refine wl_step (st_val rfl (v_geqI rfl rfl rfl) ?_)
          simp only [Act.put, List.setIfInBounds_toArray, List.set_cons_zero, List.set_cons_succ]
          repeat ((fail_if_success (with_reducible show wpList _ _ _ (List.cons _ _) _ _)); (fail_if_success (with_reducible show Code.wp _ (Code.region _ _ true) _ _ _)); go_step)
          refine wl_step (st_val rfl (v_moveT (.inl rfl) rfl) ?_)
          simp only [Act.put, List.setIfInBounds_toArray, List.set_cons_zero, List.set_cons_succ]
          refine wl_step (st_val rfl (v_add (n := 1) rfl rfl rfl (w_i64 (by omega))) ?_)
          simp only [Act.put, List.setIfInBounds_toArray, List.set_cons_zero, List.set_cons_succ]
          refine wl_step (st_val rfl (v_moveT (.inr rfl) rfl) ?_)
          simp only [Act.put, List.setIfInBounds_toArray, List.set_cons_zero, List.set_cons_succ]
          go_wp2
          go_roundw
          case rel => exact ⟨J + 1, by omega, rfl, hE0⟩
          case measure => simp [intOf]; omega
        | succ j =>
          have hj : ((j + 1 : Nat) : Int) - 1 = (j : Int) := by omega
          rw [hj]
          clear hj
          have hj8 : j < 8 := by omega
          have hg := nm_get (halfAt A (j + 1)) j hj8
          rw [halfAt_digit] at hg
          have ha : A / 4294967296 ^ j % 4294967296 < 4294967296 := Nat.mod_lt _ (by decide)
          obtain ⟨a, hae⟩ : ∃ a, A / 4294967296 ^ j % 4294967296 = a := ⟨_, rfl⟩
          have hs := halfAt_step HA.out hj8 hae hu.out.symm
          rw [hae] at hg ha
          have Hg := Lib.hid hg
          have hu2 : u < 2 := hu.out ▸ Nat.mod_lt _ (by decide)
          have hd := hs.2.1
          have Hs := Lib.hid hs
          have hh8 := nm_len (halfAt A (j + 1))
          obtain ⟨X, hXe⟩ : ∃ X, digs 4294967296 8 (halfAt A (j + 1)) = X := ⟨_, rfl⟩
          rw [hXe] at hE0 Hs hh8 Hg
          clear hg hae hs hu hXe
          repeat ((fail_if_success (with_reducible show wpList _ _ _ (List.cons _ _) _ _)); (fail_if_success (with_reducible show Code.wp _ (Code.region _ _ true) _ _ _)); go_step)
          refine wl_step (st_val rfl (v_moveT (.inl rfl) rfl) ?_)
          simp only [Act.put, List.setIfInBounds_toArray, List.set_cons_zero, List.set_cons_succ]
          refine wl_step (st_val rfl (v_geqI rfl rfl rfl) ?_)
          simp only [Act.put, List.setIfInBounds_toArray, List.set_cons_zero, List.set_cons_succ]
          repeat ((fail_if_success (with_reducible show wpList _ _ _ (List.cons _ _) _ _)); (fail_if_success (with_reducible show Code.wp _ (Code.region _ _ true) _ _ _)); go_step)
          refine wl_step (st_val rfl (v_moveT (.inl rfl) rfl) ?_)
          simp only [Act.put, List.setIfInBounds_toArray, List.set_cons_zero, List.set_cons_succ]
          refine wl_step (st_val rfl (v_indexA0 rfl rfl rfl Try.underlying38 (by kernel_rfl) (by first | assumption | omega)) ?_)
          simp only [Act.put, List.setIfInBounds_toArray, List.set_cons_zero, List.set_cons_succ]
          refine wl_step (st_val rfl (v_cell rfl rfl Try.underlying29 rfl (Env.cellv (i := 1) hE0 rfl (ints_get? _ _ _ (by first | assumption | omega | (simp; done) | (simp; omega))))) ?_)
          simp only [Act.put, List.setIfInBounds_toArray, List.set_cons_zero, List.set_cons_succ]
          rw [Hg.out]
          refine wl_step (st_val rfl (v_rem (n := 2) rfl rfl rfl (by omega)) ?_)
          simp only [Act.put, List.setIfInBounds_toArray, List.set_cons_zero, List.set_cons_succ]
          refine wl_step (st_val rfl (v_moveT (.inr rfl) rfl) ?_)
          simp only [Act.put, List.setIfInBounds_toArray, List.set_cons_zero, List.set_cons_succ]
          repeat ((fail_if_success (with_reducible show wpList _ _ _ (List.cons _ _) _ _)); (fail_if_success (with_reducible show Code.wp _ (Code.region _ _ true) _ _ _)); go_step)
          refine wl_step (st_val rfl (v_moveT (.inl rfl) rfl) ?_)
          simp only [Act.put, List.setIfInBounds_toArray, List.set_cons_zero, List.set_cons_succ]
          refine wl_step (st_val rfl (v_moveT (.inl rfl) rfl) ?_)
          simp only [Act.put, List.setIfInBounds_toArray, List.set_cons_zero, List.set_cons_succ]
          refine wl_step (st_val rfl (v_indexA0 rfl rfl rfl Try.underlying38 (by kernel_rfl) (by first | assumption | omega)) ?_)
          simp only [Act.put, List.setIfInBounds_toArray, List.set_cons_zero, List.set_cons_succ]
          refine wl_step (st_val rfl (v_cell rfl rfl Try.underlying29 rfl (Env.cellv (i := 1) hE0 rfl (ints_get? _ _ _ (by first | assumption | omega | (simp; done) | (simp; omega))))) ?_)
          simp only [Act.put, List.setIfInBounds_toArray, List.set_cons_zero, List.set_cons_succ]
          rw [Hg.out]
          refine wl_step (st_val rfl (v_quo (n := 2) rfl rfl rfl (by omega) (by first | exact w_uns rfl (by simp only [IntKind.bits]; omega) | rfl)) ?_)
          simp only [Act.put, List.setIfInBounds_toArray, List.set_cons_zero, List.set_cons_succ]
          refine wl_step (st_val rfl (v_moveT (.inl rfl) rfl) ?_)
          simp only [Act.put, List.setIfInBounds_toArray, List.set_cons_zero, List.set_cons_succ]
          refine wl_step (st_val rfl (v_shlC (s := 31) (d := 2147483648) rfl rfl rfl (by decide) (by decide) (by first | exact w_uns rfl (by simp only [IntKind.bits]; omega) | rfl)) ?_)
          simp only [Act.put, List.setIfInBounds_toArray, List.set_cons_zero, List.set_cons_succ]
          refine wl_step (st_val rfl (v_add rfl rfl rfl (by first | exact w_uns rfl (by simp only [IntKind.bits]; omega) | rfl)) ?_)
          simp only [Act.put, List.setIfInBounds_toArray, List.set_cons_zero, List.set_cons_succ]
          refine wl_step (st_val rfl (v_indexA0 rfl rfl rfl Try.underlying38 (by kernel_rfl) (by first | assumption | omega)) ?_)
          simp only [Act.put, List.setIfInBounds_toArray, List.set_cons_zero, List.set_cons_succ]
          refine wl_step (st_putN (i := 1) hE0 rfl rfl rfl rfl rfl (by kernel_rfl) (by first | assumption | omega | (simp only [List.length_set, List.length_replicate]; first | assumption | omega)) ?_)
          intro w1 hE1
          clear hE0
          simp only [List.set_cons_zero, List.set_cons_succ] at hE1
          simp only [Act.put, List.setIfInBounds_toArray, List.set_cons_zero, List.set_cons_succ]
          repeat ((fail_if_success (with_reducible show wpList _ _ _ (List.cons _ _) _ _)); (fail_if_success (with_reducible show Code.wp _ (Code.region _ _ true) _ _ _)); go_step)
          refine wl_step (st_val rfl (v_moveT (.inl rfl) rfl) ?_)
          simp only [Act.put, List.setIfInBounds_toArray, List.set_cons_zero, List.set_cons_succ]
          refine wl_step (st_val rfl (v_moveT (.inr rfl) rfl) ?_)
          simp only [Act.put, List.setIfInBounds_toArray, List.set_cons_zero, List.set_cons_succ]
          repeat ((fail_if_success (with_reducible show wpList _ _ _ (List.cons _ _) _ _)); (fail_if_success (with_reducible show Code.wp _ (Code.region _ _ true) _ _ _)); go_step)
          refine wl_step (st_val rfl (v_moveT (.inl rfl) rfl) ?_)
          simp only [Act.put, List.setIfInBounds_toArray, List.set_cons_zero, List.set_cons_succ]
          refine wl_step (st_val rfl (v_sub (n := 1) rfl rfl rfl (by first | exact w_i64s (by omega) (by omega) | exact w_i64I (by omega) (by omega))) ?_)
          simp only [Act.put, List.setIfInBounds_toArray, List.set_cons_zero, List.set_cons_succ]
          refine wl_step (st_val rfl (v_moveT (.inr rfl) rfl) ?_)
          simp only [Act.put, List.setIfInBounds_toArray, List.set_cons_zero, List.set_cons_succ]
          go_wp2
          go_roundw
          case rel => exact ⟨j, _, by omega, rfl, rfl, Lib.hid Hs.out.2.2.symm, by rw [← Hs.out.1]; exact hE1⟩
          case measure => simp [intOf]
    · have hJ' : J = k := by omega
      subst hJ'
      have hl8 := nm_len (n / 2 ^ J)
      repeat ((fail_if_success (with_reducible show wpList _ _ _ (List.cons _ _) _ _)); (fail_if_success (with_reducible show Code.wp _ (Code.region _ _ true) _ _ _)); go_step)
      refine wl_step (st_val rfl (v_moveT (.inl rfl) rfl) ?_)
      simp only [Act.put, List.setIfInBounds_toArray, List.set_cons_zero, List.set_cons_succ]
      refine wl_step (st_val rfl (v_moveT (.inl rfl) rfl) ?_)
      simp only [Act.put, List.setIfInBounds_toArray, List.set_cons_zero, List.set_cons_succ]
      refine wl_step (st_val rfl (v_lss rfl rfl rfl) ?_)
      simp only [Act.put, List.setIfInBounds_toArray, List.set_cons_zero, List.set_cons_succ]
      repeat ((fail_if_success (with_reducible show wpList _ _ _ (List.cons _ _) _ _)); (fail_if_success (with_reducible show Code.wp _ (Code.region _ _ true) _ _ _)); go_step)
      refine wl_step (st_val rfl (v_load (i := 1) hE0 rfl rfl rfl Try.underlying38 rfl (sz_of (n := 8) (by kernel_rfl) (by first | (simp only [ints_size, digs_length, List.length_replicate, List.length_cons, List.length_nil]; done) | (simp only [ints_size, digs_length, List.length_replicate, List.length_cons, List.length_nil, List.length_set, List.length_append]; omega) | rfl))) ?_)
      simp only [Act.put, List.setIfInBounds_toArray, List.set_cons_zero, List.set_cons_succ]
      refine wl_step (st_store (i := 0) hE0 rfl rfl rfl rfl rfl (sz_of (n := 8) (by kernel_rfl) (by first | (simp only [ints_size, digs_length, List.length_replicate, List.length_cons, List.length_nil]; done) | (simp only [ints_size, digs_length, List.length_replicate, List.length_cons, List.length_nil, List.length_set, List.length_append]; omega) | rfl)) (by first | (simp only [ints_size, digs_length, List.length_replicate, List.length_cons, List.length_nil]; done) | (simp only [ints_size, digs_length, List.length_replicate, List.length_cons, List.length_nil, List.length_set, List.length_append]; omega) | rfl) (by first | exact ints_one _ _ | decide | simp [*]) ?_)
      intro w1 hE1
      clear hE0
      simp only [List.set_cons_zero, List.set_cons_succ] at hE1
      simp only [Act.put, List.setIfInBounds_toArray, List.set_cons_zero, List.set_cons_succ]
      repeat ((fail_if_success (with_reducible show wpList _ _ _ (List.cons _ _) _ _)); (fail_if_success (with_reducible show Code.wp _ (Code.region _ _ true) _ _ _)); go_step)
      refine bodyPost_ret (results_cell_row rfl _ _ _ _ _ (0, 0) _ rfl (hE1.get (i := 0) rfl) Try.underlying38 rfl (sz_of (n := 8) (by kernel_rfl) (by first | (simp only [ints_size, digs_length, List.length_replicate, List.length_cons, List.length_nil]; done) | (simp only [ints_size, digs_length, List.length_replicate, List.length_cons, List.length_nil, List.length_set, List.length_append]; omega) | rfl))) rfl ⟨rfl, hE1.below⟩
end Go.Proofs.Ytlejdddhgnfkdaa
