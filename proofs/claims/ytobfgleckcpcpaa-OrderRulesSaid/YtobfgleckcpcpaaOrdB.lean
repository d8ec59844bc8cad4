/-
  Layer 5: the walks of package order that call others.
-/
import Derived.Test.YtobfgleckcpcpaaOrdA
import Derived.Test.YtobfgleckcpcpaaHeld
import Derived.Test.YtobfgleckcpcpaaEnv
namespace Go.Proofs.Ytobfgleckcpcpaa
open Go.RowKit
set_option linter.unusedVariables false
set_option linter.unusedSimpArgs false

theorem plus_num {n0 n1 n2 n3 o0 o1 o2 o3 : Nat} (h0 : n0 < 18446744073709551616) (h1 : n1 < 18446744073709551616) (h2 : n2 < 18446744073709551616) (h3 : n3 < 18446744073709551616)
    (g0 : o0 < 18446744073709551616) (g1 : o1 < 18446744073709551616) (g2 : o2 < 18446744073709551616) (g3 : o3 < 18446744073709551616) {N O c0 c1 c2 c3 d0 d1 d2 d3 : Nat}
    (HN : N = n0 + 18446744073709551616 * (n1 + 18446744073709551616 * (n2 + 18446744073709551616 * n3))) (HO : O = o0 + 18446744073709551616 * (o1 + 18446744073709551616 * (o2 + 18446744073709551616 * o3)))
    (hN : N < q) (hO : O < q)
    (hc0 : c0 = carW n0 o0 0) (hd0 : d0 = sumW n0 o0 0) (hc1 : c1 = carW n1 o1 c0) (hd1 : d1 = sumW n1 o1 c0) (hc2 : c2 = carW n2 o2 c1) (hd2 : d2 = sumW n2 o2 c1) (hc3 : c3 = carW n3 o3 c2) (hd3 : d3 = sumW n3 o3 c2) :
    Value.agg #[.int .u64 d0, .int .u64 d1, .int .u64 d2, .int .u64 d3] = num (N + O) := by
  have e0 := sum_car n0 o0 0
  have e1 := sum_car n1 o1 c0
  have e2 := sum_car n2 o2 c1
  have e3 := sum_car n3 o3 c2
  have k0 := sumW_lt n0 o0 0
  have k1 := sumW_lt n1 o1 c0
  have k2 := sumW_lt n2 o2 c1
  have k3 := sumW_lt n3 o3 c2
  rw [← hd0, ← hc0] at e0
  rw [← hd1, ← hc1] at e1
  rw [← hd2, ← hc2] at e2
  rw [← hd3, ← hc3] at e3
  rw [← hd0] at k0
  rw [← hd1] at k1
  rw [← hd2] at k2
  rw [← hd3] at k3
  have hlt : N + O < big256 := Nat.lt_trans (Nat.add_lt_add hN hO) (by decide)
  refine num_mk k0 k1 k2 k3 ?_
  have key := four_sum d0 d1 d2 d3 o0 o1 o2 o3 n0 n1 n2 n3 c0 c1 c2 c3 N O e0 e1 e2 e3 HN HO
  rw [key] at hlt
  have hc : c3 = 0 := Nat.eq_zero_of_not_pos fun hp => by
    have : big256 * 1 ≤ big256 * c3 := Nat.mul_le_mul_left _ hp
    rw [Nat.mul_one] at this
    exact absurd (Nat.lt_of_le_of_lt (Nat.le_trans this (Nat.le_add_left _ _)) hlt) (Nat.lt_irrefl _)
  rw [key, hc, Nat.mul_zero, Nat.add_zero]

theorem plus_end {N O : Nat} (hN : N < q) (hO : O < q) : (decide (N + O < q) = true → num (N + O) = num ((N + O) % q)) ∧ (decide (N + O < q) = false → num ((N + O + big256 - q) % big256) = num ((N + O) % q)) := by
  have e : (decide (N + O < q) = true → N + O = (N + O) % q) ∧ (decide (N + O < q) = false → (N + O + big256 - q) % big256 = (N + O) % q) := by
    unfold q big256 at *
    constructor
    · intro h
      rw [decide_eq_true_eq] at h
      rw [Nat.mod_eq_of_lt h]
    · intro h
      rw [decide_eq_false_iff_not] at h
      omega
  exact ⟨fun h => congrArg num (e.1 h), fun h => congrArg num (e.2 h)⟩

theorem al_num (w : World) : (Instr.alloc 37 true (.tuple #[])).run Try.prog w = .ok (.pointer (some ⟨w.heap.size, 0, none⟩)) (w.alloc (.cells (ints .u64 (List.replicate 4 0)) 37)) := by kernel_rfl
theorem al_b32 (w : World) : (Instr.alloc 22 true (.tuple #[])).run Try.prog w = .ok (.pointer (some ⟨w.heap.size, 0, none⟩)) (w.alloc (.cells (ints .u8 (List.replicate 32 0)) 22)) := by kernel_rfl

set_option maxHeartbeats 1000000 in
theorem bytes_any (N : Nat) (hN : N < big256) (w : World) : Gives 21 #[num N] w (.agg (ints .u8 (digs 256 32 N))) := by
  have hE0 := Env.nil w
  go_enter Try.func21, Try.ntmps21
  repeat ((fail_if_success (with_reducible show wpList _ _ _ (List.cons _ _) _ _)); (fail_if_success (with_reducible show Code.wp _ (Code.region _ _ true) _ _ _)); go_step)
  refine wl_box (cs := ints .u64 (digs 18446744073709551616 4 N)) hE0 rfl rfl rfl ?_
  intro g0 w1 hE1
  clear hE0
  simp only [Act.put, List.setIfInBounds_toArray, List.set_cons_zero, List.set_cons_succ]
  refine wl_alloc hE1 rfl rfl al_b32 ?_
  intro g1 w2 hE2
  clear hE1
  simp only [Act.put, List.setIfInBounds_toArray, List.set_cons_zero, List.set_cons_succ]
  repeat ((fail_if_success (with_reducible show wpList _ _ _ (List.cons _ _) _ _)); (fail_if_success (with_reducible show Code.wp _ (Code.region _ _ true) _ _ _)); go_step)
  refine wl_alloc hE2 rfl rfl al_b32 ?_
  intro g2 w3 hE3
  clear hE2
  simp only [Act.put, List.setIfInBounds_toArray, List.set_cons_zero, List.set_cons_succ]
  go_wp2
  go_loopw [4, 5] (fun _ i wr => ∃ n : Nat, n ≤ 32 ∧ i = .int .i64 n ∧ Env w [⟨g2, 22, ints .u8 (digs 256 n N ++ List.replicate (32 - n) 0)⟩, ⟨g1, 22, ints .u8 (List.replicate 32 0)⟩, ⟨g0, 37, ints .u64 (digs 18446744073709551616 4 N)⟩] wr) (fun _ i _ => 32 - (intOf i).toNat)
  case atStart => exact ⟨0, by omega, rfl, by simpa [digs] using hE3⟩
  case round =>
    obtain ⟨n, hn, rfl, hE⟩ := hrel
    by_cases hlt : n < 32
    · have c0 := hE.cell (i := 2) rfl (n / 8)
      have c1 := hE.cell (i := 0) rfl n
      have f1 := hE.frozen (i := 0) rfl n
      rw [ints_get? _ _ _ (by rw [digs_length]; omega), digs_getD _ _ _ _ (by omega)] at c0
      rw [ints_get? _ _ _ (by rw [List.length_append, digs_length, List.length_replicate]; omega)] at c1
      go_wp2
      go_roundw
      case rel =>
        refine ⟨n + 1, by omega, by go_num, ?_⟩
        have hE' := hE.setCell (i := 0) rfl n (.int .u8 ((N / 256 ^ n % 256 : Nat) : Int))
        rw [ints_fill _ _ _ _ _ (digs_length _ _ _) hlt, ← digs_snoc] at hE'
        rw [← byte_of_word] at hE'
        simpa using hE'
      case measure => simp [intOf]; omega
    · have hn' : n = 32 := by omega
      subst hn'
      have hE0 := hE
      simp only [Nat.sub_self, List.replicate_zero, List.append_nil] at hE0
      clear hE
      repeat ((fail_if_success (with_reducible show wpList _ _ _ (List.cons _ _) _ _)); (fail_if_success (with_reducible show Code.wp _ (Code.region _ _ true) _ _ _)); go_step)
      apply wl_val rfl
      · go_simp
        with_reducible rfl
      simp only [Act.put, List.setIfInBounds_toArray, List.set_cons_zero, List.set_cons_succ]
      repeat ((fail_if_success (with_reducible show wpList _ _ _ (List.cons _ _) _ _)); (fail_if_success (with_reducible show Code.wp _ (Code.region _ _ true) _ _ _)); go_step)
      refine wl_load (i := 0) hE0 rfl rfl rfl rfl Try.underlying22 rfl (sz_of (n := 32) (by kernel_rfl) (by first | (simp only [ints_size, digs_length, List.length_replicate, List.length_cons, List.length_nil]; done) | (simp only [ints_size, *]; done) | rfl)) ?_
      simp only [Act.put, List.setIfInBounds_toArray, List.set_cons_zero, List.set_cons_succ]
      refine wl_store (i := 1) hE0 rfl rfl rfl rfl rfl (sz_of (n := 32) (by kernel_rfl) (by first | (simp only [ints_size, digs_length, List.length_replicate, List.length_cons, List.length_nil]; done) | (simp only [ints_size, *]; done) | rfl)) (by first | (simp only [ints_size, digs_length, List.length_replicate, List.length_cons, List.length_nil]; done) | (simp only [ints_size, *]; done) | rfl) (by first | exact ints_one _ _ | decide | simp [*]) ?_
      intro w1 hE1
      clear hE0
      simp only [List.set_cons_zero, List.set_cons_succ] at hE1
      simp only [Act.put, List.setIfInBounds_toArray, List.set_cons_zero, List.set_cons_succ]
      repeat ((fail_if_success (with_reducible show wpList _ _ _ (List.cons _ _) _ _)); (fail_if_success (with_reducible show Code.wp _ (Code.region _ _ true) _ _ _)); go_step)
      refine bodyPost_ret (results_cell_row rfl _ _ _ _ _ (0, 0) _ rfl (hE1.get (i := 1) rfl) Try.underlying22 rfl (sz_of (n := 32) (by kernel_rfl) (by first | (simp only [ints_size, digs_length, List.length_replicate, List.length_cons, List.length_nil]; done) | (simp only [ints_size, *]; done) | rfl))) rfl ⟨rfl, hE1.below⟩

set_option maxHeartbeats 1000000 in
theorem plus_any (N O : Nat) (hN : N < q) (hO : O < q) (w : World) :
    Gives 20 #[num N, num O] w (num ((N + O) % q)) := by
  obtain ⟨n0, n1, n2, n3, hn, h0, h1, h2, h3, HN⟩ := num_open N (Nat.lt_trans hN (by decide))
  obtain ⟨o0, o1, o2, o3, ho, g0, g1, g2, g3, HO⟩ := num_open O (Nat.lt_trans hO (by decide))
  rw [hn, ho]
  obtain ⟨c0, hc0⟩ : ∃ c, c = carW n0 o0 0 := ⟨_, rfl⟩
  obtain ⟨d0, hd0⟩ : ∃ c, c = sumW n0 o0 0 := ⟨_, rfl⟩
  obtain ⟨c1, hc1⟩ : ∃ c, c = carW n1 o1 c0 := ⟨_, rfl⟩
  obtain ⟨d1, hd1⟩ : ∃ c, c = sumW n1 o1 c0 := ⟨_, rfl⟩
  obtain ⟨c2, hc2⟩ : ∃ c, c = carW n2 o2 c1 := ⟨_, rfl⟩
  obtain ⟨d2, hd2⟩ : ∃ c, c = sumW n2 o2 c1 := ⟨_, rfl⟩
  obtain ⟨c3, hc3⟩ : ∃ c, c = carW n3 o3 c2 := ⟨_, rfl⟩
  obtain ⟨d3, hd3⟩ : ∃ c, c = sumW n3 o3 c2 := ⟨_, rfl⟩
  have l0 : c0 ≤ 1 := hc0 ▸ carW_le h0 g0 (by decide)
  have l1 : c1 ≤ 1 := hc1 ▸ carW_le h1 g1 l0
  have l2 : c2 ≤ 1 := hc2 ▸ carW_le h2 g2 l1
  have s0 : ∀ w, (callFunc 33 #[.int .u64 n0, .int .u64 o0, .int .u64 0]).run Try.prog w = .ok (.value (.tuple #[.int .u64 d0, .int .u64 c0])) w := fun w => by rw [hd0, hc0]; exact run_Add64 n0 o0 0 (by decide) w
  have s1 : ∀ w, (callFunc 33 #[.int .u64 n1, .int .u64 o1, .int .u64 c0]).run Try.prog w = .ok (.value (.tuple #[.int .u64 d1, .int .u64 c1])) w := fun w => by rw [hd1, hc1]; exact run_Add64 n1 o1 c0 l0 w
  have s2 : ∀ w, (callFunc 33 #[.int .u64 n2, .int .u64 o2, .int .u64 c1]).run Try.prog w = .ok (.value (.tuple #[.int .u64 d2, .int .u64 c2])) w := fun w => by rw [hd2, hc2]; exact run_Add64 n2 o2 c1 l1 w
  have s3 : ∀ w, (callFunc 33 #[.int .u64 n3, .int .u64 o3, .int .u64 c2]).run Try.prog w = .ok (.value (.tuple #[.int .u64 d3, .int .u64 c3])) w := fun w => by rw [hd3, hc3]; exact run_Add64 n3 o3 c2 l2 w
  have HS : Value.agg (ints .u64 [d0, d1, d2, d3]) = num (N + O) := plus_num h0 h1 h2 h3 g0 g1 g2 g3 HN HO hN hO hc0 hd0 hc1 hd1 hc2 hd2 hc3 hd3
  have HM := minus_any (N + O) q (Nat.lt_trans (Nat.add_lt_add hN hO) (by decide)) (by decide)
  rw [← HS] at HM
  have HE := plus_end hN hO
  obtain ⟨u, hu⟩ : ∃ u, u = decide (N + O < q) := ⟨_, rfl⟩
  rw [← hu] at HM HE
  clear hu
  have HM' := Lib.hid HM
  have HS' := Lib.hid HS
  have HE' := Lib.hid HE
  clear HM HS HE hn ho h0 h1 h2 h3 g0 g1 g2 g3 HN HO hc0 hd0 hc1 hd1 hc2 hd2 hc3 hd3 hN hO l0 l1 l2
  go_enter Try.func20, Try.ntmps20
  go_wp2
  refine wp_loop_rounds 5 ?_
  iterate 4 (rw [rounds_succ]; go_wp2; go_region; go_wp2)
  rw [rounds_succ]
  go_wp2
  have hE0 : Env w [⟨w.heap.size + 1 + 1, 37, ints .u64 (List.replicate 4 0)⟩, ⟨w.heap.size + 1, 37, ints .u64 [o0, o1, o2, o3]⟩, ⟨w.heap.size, 37, ints .u64 [d0, d1, d2, d3]⟩] _ :=
    ((((((((Env.nil w).alloc _ _).alloc' _ _ (by simp)).alloc' _ _ (by simp)).drew).drew).drew).drew)
  refine wp_world (Env w [⟨w.heap.size + 1 + 1, 37, ints .u64 (List.replicate 4 0)⟩, ⟨w.heap.size + 1, 37, ints .u64 [o0, o1, o2, o3]⟩, ⟨w.heap.size, 37, ints .u64 [d0, d1, d2, d3]⟩]) hE0 ?_
  clear hE0 s0 s1 s2 s3
  intro w0 hE0
  cases u
  ·
    repeat ((fail_if_success (with_reducible show wpList _ _ _ (List.cons _ _) _ _)); (fail_if_success (with_reducible show Code.wp _ (Code.region _ _ true) _ _ _)); go_step)
    refine wp_region_env 7 (by kernel_rfl) (by kernel_rfl) (fun _ _ d _ _ h => by cases d <;> exact h) hE0 ?_
    refine headRun_load rfl rfl (fun w h => h.get (i := 2) rfl) Try.underlying37 rfl (sz_of (n := 4) (by kernel_rfl) (by first | (simp only [ints_size, digs_length, List.length_replicate, List.length_cons, List.length_nil]; done) | (simp only [ints_size, *]; done) | rfl)) ?_
    simp only [Act.put, List.setIfInBounds_toArray, List.set_cons_zero, List.set_cons_succ]
    refine headRun_call (fun w1 => by go_simp) (fun w1 hW => q_any _) ?_
    simp only [Act.put, List.setIfInBounds_toArray, List.set_cons_zero, List.set_cons_succ]
    refine headRun_call (fun w1 => by go_simp) (fun w1 hW => HM'.out _) ?_
    simp only [Act.put, List.setIfInBounds_toArray, List.set_cons_zero, List.set_cons_succ]
    apply headRun_val
    · intro w1 h1
      go_simp
      with_reducible rfl
    simp only [Act.put, List.setIfInBounds_toArray, List.set_cons_zero, List.set_cons_succ]
    apply headRun_val
    · intro w1 h1
      go_simp
      with_reducible rfl
    simp only [Act.put, List.setIfInBounds_toArray, List.set_cons_zero, List.set_cons_succ]
    apply headRun_val
    · intro w1 h1
      go_simp
      with_reducible rfl
    simp only [Act.put, List.setIfInBounds_toArray, List.set_cons_zero, List.set_cons_succ]
    refine headRun_alloc rfl rfl al_num ?_
    refine headRun_nil (endK1 ?_)
    intro g90 w1 hE1
    clear hE0
    simp only [List.drop_succ_cons, List.drop_zero, Act.put, List.setIfInBounds_toArray, List.set_cons_zero, List.set_cons_succ]
    refine wl_store (i := 0) hE1 rfl rfl rfl rfl rfl (sz_of (n := 4) (by kernel_rfl) (by first | (simp only [ints_size, digs_length, List.length_replicate, List.length_cons, List.length_nil]; done) | (simp only [ints_size, *]; done) | rfl)) (by first | (simp only [ints_size, digs_length, List.length_replicate, List.length_cons, List.length_nil]; done) | (simp only [ints_size, *]; done) | rfl) (by first | exact ints_one _ _ | decide | simp [*]) ?_
    intro w2 hE2
    clear hE1
    simp only [List.set_cons_zero, List.set_cons_succ] at hE2
    simp only [Act.put, List.setIfInBounds_toArray, List.set_cons_zero, List.set_cons_succ]
    apply wl_val rfl
    · go_simp
      with_reducible rfl
    simp only [Act.put, List.setIfInBounds_toArray, List.set_cons_zero, List.set_cons_succ]
    repeat ((fail_if_success (with_reducible show wpList _ _ _ (List.cons _ _) _ _)); (fail_if_success (with_reducible show Code.wp _ (Code.region _ _ true) _ _ _)); go_step)
    apply wl_val rfl
    · go_simp
      with_reducible rfl
    simp only [Act.put, List.setIfInBounds_toArray, List.set_cons_zero, List.set_cons_succ]
    apply wl_val rfl
    · go_simp
      with_reducible rfl
    simp only [Act.put, List.setIfInBounds_toArray, List.set_cons_zero, List.set_cons_succ]
    repeat ((fail_if_success (with_reducible show wpList _ _ _ (List.cons _ _) _ _)); (fail_if_success (with_reducible show Code.wp _ (Code.region _ _ true) _ _ _)); go_step)
    refine wl_load (i := 0) hE2 rfl rfl rfl rfl Try.underlying37 rfl (sz_of (n := 4) (by kernel_rfl) (by first | (simp only [ints_size, digs_length, List.length_replicate, List.length_cons, List.length_nil]; done) | (simp only [ints_size, *]; done) | rfl)) ?_
    simp only [Act.put, List.setIfInBounds_toArray, List.set_cons_zero, List.set_cons_succ]
    refine wl_store (i := 1) hE2 rfl rfl rfl rfl rfl (sz_of (n := 4) (by kernel_rfl) (by first | (simp only [ints_size, digs_length, List.length_replicate, List.length_cons, List.length_nil]; done) | (simp only [ints_size, *]; done) | rfl)) (by first | (simp only [ints_size, digs_length, List.length_replicate, List.length_cons, List.length_nil]; done) | (simp only [ints_size, *]; done) | rfl) (by first | exact ints_one _ _ | decide | simp [*]) ?_
    intro w3 hE3
    clear hE2
    simp only [List.set_cons_zero, List.set_cons_succ] at hE3
    simp only [Act.put, List.setIfInBounds_toArray, List.set_cons_zero, List.set_cons_succ]
    repeat ((fail_if_success (with_reducible show wpList _ _ _ (List.cons _ _) _ _)); (fail_if_success (with_reducible show Code.wp _ (Code.region _ _ true) _ _ _)); go_step)
    refine bodyPost_ret (results_cell_row rfl _ _ _ _ _ (0, 0) _ rfl (hE3.get (i := 1) rfl) Try.underlying37 rfl (sz_of (n := 4) (by kernel_rfl) (by first | (simp only [ints_size, digs_length, List.length_replicate, List.length_cons, List.length_nil]; done) | (simp only [ints_size, *]; done) | rfl))) rfl ⟨by rw [← HE'.out.2 rfl], hE3.below⟩
  ·
    repeat ((fail_if_success (with_reducible show wpList _ _ _ (List.cons _ _) _ _)); (fail_if_success (with_reducible show Code.wp _ (Code.region _ _ true) _ _ _)); go_step)
    refine wp_region_env 7 (by kernel_rfl) (by kernel_rfl) (fun _ _ d _ _ h => by cases d <;> exact h) hE0 ?_
    refine headRun_load rfl rfl (fun w h => h.get (i := 2) rfl) Try.underlying37 rfl (sz_of (n := 4) (by kernel_rfl) (by first | (simp only [ints_size, digs_length, List.length_replicate, List.length_cons, List.length_nil]; done) | (simp only [ints_size, *]; done) | rfl)) ?_
    simp only [Act.put, List.setIfInBounds_toArray, List.set_cons_zero, List.set_cons_succ]
    refine headRun_call (fun w1 => by go_simp) (fun w1 hW => q_any _) ?_
    simp only [Act.put, List.setIfInBounds_toArray, List.set_cons_zero, List.set_cons_succ]
    refine headRun_call (fun w1 => by go_simp) (fun w1 hW => HM'.out _) ?_
    simp only [Act.put, List.setIfInBounds_toArray, List.set_cons_zero, List.set_cons_succ]
    apply headRun_val
    · intro w1 h1
      go_simp
      with_reducible rfl
    simp only [Act.put, List.setIfInBounds_toArray, List.set_cons_zero, List.set_cons_succ]
    apply headRun_val
    · intro w1 h1
      go_simp
      with_reducible rfl
    simp only [Act.put, List.setIfInBounds_toArray, List.set_cons_zero, List.set_cons_succ]
    apply headRun_val
    · intro w1 h1
      go_simp
      with_reducible rfl
    simp only [Act.put, List.setIfInBounds_toArray, List.set_cons_zero, List.set_cons_succ]
    refine headRun_alloc rfl rfl al_num ?_
    refine headRun_nil (endK1 ?_)
    intro g90 w1 hE1
    clear hE0
    simp only [List.drop_succ_cons, List.drop_zero, Act.put, List.setIfInBounds_toArray, List.set_cons_zero, List.set_cons_succ]
    refine wl_store (i := 0) hE1 rfl rfl rfl rfl rfl (sz_of (n := 4) (by kernel_rfl) (by first | (simp only [ints_size, digs_length, List.length_replicate, List.length_cons, List.length_nil]; done) | (simp only [ints_size, *]; done) | rfl)) (by first | (simp only [ints_size, digs_length, List.length_replicate, List.length_cons, List.length_nil]; done) | (simp only [ints_size, *]; done) | rfl) (by first | exact ints_one _ _ | decide | simp [*]) ?_
    intro w2 hE2
    clear hE1
    simp only [List.set_cons_zero, List.set_cons_succ] at hE2
    simp only [Act.put, List.setIfInBounds_toArray, List.set_cons_zero, List.set_cons_succ]
    apply wl_val rfl
    · go_simp
      with_reducible rfl
    simp only [Act.put, List.setIfInBounds_toArray, List.set_cons_zero, List.set_cons_succ]
    repeat ((fail_if_success (with_reducible show wpList _ _ _ (List.cons _ _) _ _)); (fail_if_success (with_reducible show Code.wp _ (Code.region _ _ true) _ _ _)); go_step)
    apply wl_val rfl
    · go_simp
      with_reducible rfl
    simp only [Act.put, List.setIfInBounds_toArray, List.set_cons_zero, List.set_cons_succ]
    apply wl_val rfl
    · go_simp
      with_reducible rfl
    simp only [Act.put, List.setIfInBounds_toArray, List.set_cons_zero, List.set_cons_succ]
    repeat ((fail_if_success (with_reducible show wpList _ _ _ (List.cons _ _) _ _)); (fail_if_success (with_reducible show Code.wp _ (Code.region _ _ true) _ _ _)); go_step)
    refine wl_load (i := 3) hE2 rfl rfl rfl rfl Try.underlying37 rfl (sz_of (n := 4) (by kernel_rfl) (by first | (simp only [ints_size, digs_length, List.length_replicate, List.length_cons, List.length_nil]; done) | (simp only [ints_size, *]; done) | rfl)) ?_
    simp only [Act.put, List.setIfInBounds_toArray, List.set_cons_zero, List.set_cons_succ]
    refine wl_store (i := 1) hE2 rfl rfl rfl rfl rfl (sz_of (n := 4) (by kernel_rfl) (by first | (simp only [ints_size, digs_length, List.length_replicate, List.length_cons, List.length_nil]; done) | (simp only [ints_size, *]; done) | rfl)) (by first | (simp only [ints_size, digs_length, List.length_replicate, List.length_cons, List.length_nil]; done) | (simp only [ints_size, *]; done) | rfl) (by first | exact ints_one _ _ | decide | simp [*]) ?_
    intro w3 hE3
    clear hE2
    simp only [List.set_cons_zero, List.set_cons_succ] at hE3
    simp only [Act.put, List.setIfInBounds_toArray, List.set_cons_zero, List.set_cons_succ]
    repeat ((fail_if_success (with_reducible show wpList _ _ _ (List.cons _ _) _ _)); (fail_if_success (with_reducible show Code.wp _ (Code.region _ _ true) _ _ _)); go_step)
    refine bodyPost_ret (results_cell_row rfl _ _ _ _ _ (0, 0) _ rfl (hE3.get (i := 1) rfl) Try.underlying37 rfl (sz_of (n := 4) (by kernel_rfl) (by first | (simp only [ints_size, digs_length, List.length_replicate, List.length_cons, List.length_nil]; done) | (simp only [ints_size, *]; done) | rfl))) rfl ⟨by rw [← HE'.out.1 rfl, ← HS'.out], hE3.below⟩
end Go.Proofs.Ytobfgleckcpcpaa
