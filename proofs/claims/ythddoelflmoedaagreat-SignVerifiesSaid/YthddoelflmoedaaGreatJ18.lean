/-
  Layer 5: the walks of package order that call others.
  Layer 5: bytes into words, and the rest of words divided by the order.
  Layer 5: the rest of words divided by the order, bit by bit.
  Layer 5: the product of two numbers.
  Layer 5: the functions that the package tells: what they answer of any bytes.
  Layer 3, plain: words turned, the schedule, the rounds, a block; for words of w bits. No condition. No program in sight.
  More of what only reads: minus and complement of a number, a negative number taken without its sign; words of 32 bits. No condition on the program.
-/
import Derived.Test.YthddoelflmoedaaGreatJ01
import Derived.Test.YthddoelflmoedaaGreatJ05
import Derived.Test.YthddoelflmoedaaGreatJ07
import Derived.Test.YthddoelflmoedaaGreatJ16
import Derived.Test.YthddoelflmoedaaGreatJ17
set_option linter.unusedVariables false
set_option linter.unusedSimpArgs false
namespace Go.Proofs.YthddoelflmoedaaGreat
open Go.RowKit
set_option maxRecDepth 100000

theorem plus_num {n0 n1 n2 n3 o0 o1 o2 o3 : Nat} (h0 : n0 < 18446744073709551616) (h1 : n1 < 18446744073709551616) (h2 : n2 < 18446744073709551616) (h3 : n3 < 18446744073709551616)
  (g0 : o0 < 18446744073709551616) (g1 : o1 < 18446744073709551616) (g2 : o2 < 18446744073709551616) (g3 : o3 < 18446744073709551616) {N O c0 c1 c2 c3 d0 d1 d2 d3 : Nat}
  (HN : N = n0 + 18446744073709551616 * (n1 + 18446744073709551616 * (n2 + 18446744073709551616 * n3))) (HO : O = o0 + 18446744073709551616 * (o1 + 18446744073709551616 * (o2 + 18446744073709551616 * o3)))
  (hN : N < q) (hO : O < q)
  (hc0 : c0 = carW n0 o0 0) (hd0 : d0 = sumW n0 o0 0) (hc1 : c1 = carW n1 o1 c0) (hd1 : d1 = sumW n1 o1 c0) (hc2 : c2 = carW n2 o2 c1) (hd2 : d2 = sumW n2 o2 c1) (hc3 : c3 = carW n3 o3 c2) (hd3 : d3 = sumW n3 o3 c2) :
  Value.agg #[.int .u64 d0, .int .u64 d1, .int .u64 d2, .int .u64 d3] = num (N + O) := by
 have e0 := sum_car n0 o0 0
 have e1 := sum_car n1 o1 c0
 have e2 := sum_car n2 o2 c1
 have e3 := sum_car n3 o3 c2
 have k0 := sumW_lt n0 o0 0
 have k1 := sumW_lt n1 o1 c0
 have k2 := sumW_lt n2 o2 c1
 have k3 := sumW_lt n3 o3 c2
 rw [← hd0, ← hc0] at e0
 rw [← hd1, ← hc1] at e1
 rw [← hd2, ← hc2] at e2
 rw [← hd3, ← hc3] at e3
 rw [← hd0] at k0
 rw [← hd1] at k1
 rw [← hd2] at k2
 rw [← hd3] at k3
 have hlt : N + O < big256 := Nat.lt_trans (Nat.add_lt_add hN hO) (by decide)
 refine num_mk k0 k1 k2 k3 ?_
 have key := four_sum d0 d1 d2 d3 o0 o1 o2 o3 n0 n1 n2 n3 c0 c1 c2 c3 N O e0 e1 e2 e3 HN HO
 rw [key] at hlt
 have hc : c3 = 0 := Nat.eq_zero_of_not_pos fun hp => by
  have : big256 * 1 ≤ big256 * c3 := Nat.mul_le_mul_left _ hp
  rw [Nat.mul_one] at this
  exact absurd (Nat.lt_of_le_of_lt (Nat.le_trans this (Nat.le_add_left _ _)) hlt) (Nat.lt_irrefl _)
 rw [key, hc, Nat.mul_zero, Nat.add_zero]

theorem plus_end {N O : Nat} (hN : N < q) (hO : O < q) : (decide (N + O < q) = true → num (N + O) = num ((N + O) % q)) ∧ (decide (N + O < q) = false → num ((N + O + big256 - q) % big256) = num ((N + O) % q)) := by
 have e : (decide (N + O < q) = true → N + O = (N + O) % q) ∧ (decide (N + O < q) = false → (N + O + big256 - q) % big256 = (N + O) % q) := by
  unfold q big256 at *
  constructor
  ·intro h
   rw [decide_eq_true_eq] at h
   rw [Nat.mod_eq_of_lt h]
  ·intro h
   rw [decide_eq_false_iff_not] at h
   omega
 exact ⟨fun h => congrArg num (e.1 h), fun h => congrArg num (e.2 h)⟩

theorem al_num (w : World) : (Instr.alloc 98 true (.tuple #[])).run Tryz.prog w = .ok (.pointer (some ⟨w.heap.size, 0, none⟩)) (w.alloc (.cells (ints .u64 (List.replicate 4 0)) 98)) := by kernel_rfl
theorem al_b32 (w : World) : (Instr.alloc 22 true (.tuple #[])).run Tryz.prog w = .ok (.pointer (some ⟨w.heap.size, 0, none⟩)) (w.alloc (.cells (ints .u8 (List.replicate 32 0)) 22)) := by kernel_rfl

set_option maxHeartbeats 1000000 in
theorem bytes_any (N : Nat) (hN : N < big256) (w : World) : Gives 67 #[num N] w (.agg (ints .u8 (digs 256 32 N))) := by
 have hE0 := Env.nil w
 go_enter Tryz.func67, Tryz.ntmps67
 repeat ((fail_if_success refine sqx ?_); go_step)
 refine wl_box (cs := ints .u64 (digs 18446744073709551616 4 N)) hE0 rfl rfl rfl ?_
 intro g0 w1 hE1
 clear hE0
 simp only [qZ]
 refine wl_alloc hE1 rfl rfl al_b32 ?_
 intro g1 w2 hE2
 clear hE1
 simp only [qZ]
 repeat ((fail_if_success refine sqx ?_); go_step)
 refine wl_alloc hE2 rfl rfl al_b32 ?_
 intro g2 w3 hE3
 clear hE2
 simp only [qZ]
 go_wp2
 go_loopw [4, 5] (fun _ i wr => ∃ n : Nat, n ≤ 32 ∧ i = .int .i64 n ∧ Env w [⟨g2, 22, ints .u8 (digs 256 n N ++ List.replicate (32 - n) 0)⟩, ⟨g1, 22, ints .u8 (List.replicate 32 0)⟩, ⟨g0, 98, ints .u64 (digs 18446744073709551616 4 N)⟩] wr) (fun _ i _ => 32 - (intOf i).toNat)
 case atStart => exact ⟨0, by omega, rfl, by simpa [digs] using hE3⟩
 case round =>
  obtain ⟨n, hn, rfl, hE⟩ := hrel
  by_cases hlt : n < 32
  ·have c0 := hE.cell (i := 2) rfl (n / 8)
   have c1 := hE.cell (i := 0) rfl n
   have f1 := hE.frozen (i := 0) rfl n
   rw [ints_get? _ _ _ (by rw [digs_length]; omega), digs_getD _ _ _ _ (by omega)] at c0
   rw [ints_get? _ _ _ (by rw [List.length_append, digs_length, List.length_replicate]; omega)] at c1
   go_wp2
   go_roundw
   case rel =>
    refine ⟨n + 1, by omega, by go_num, ?_⟩
    have hE' := hE.setCell (i := 0) rfl n (.int .u8 ((N / 256 ^ n % 256 : Nat) : Int))
    rw [ints_fill _ _ _ _ _ (digs_length _ _ _) hlt, ← digs_snoc] at hE'
    rw [← byte_of_word] at hE'
    simpa using hE'
   case measure => simp [intOf]; omega
  ·have hn' : n = 32 := by omega
   subst hn'
   have hE0 := hE
   simp only [Nat.sub_self, List.replicate_zero, List.append_nil] at hE0
   clear hE
   repeat ((fail_if_success refine sqx ?_); go_step)
   apply wl_val rfl
   ·go_simp
    with_reducible rfl
   simp only [qZ]
   repeat ((fail_if_success refine sqx ?_); go_step)
   refine wl_load (i := 0) hE0 rfl rfl rfl rfl Tryz.underlying22 rfl (sz_of (n := 32) (by kernel_rfl) (by first | (simp only [ints_size, digs_length, List.length_replicate, List.length_cons, List.length_nil]; done) | (simp only [ints_size, *]; done) | rfl)) ?_
   simp only [qZ]
   refine wl_store (i := 1) hE0 rfl rfl rfl rfl rfl (sz_of (n := 32) (by kernel_rfl) (by first | (simp only [ints_size, digs_length, List.length_replicate, List.length_cons, List.length_nil]; done) | (simp only [ints_size, *]; done) | rfl)) (by first | (simp only [ints_size, digs_length, List.length_replicate, List.length_cons, List.length_nil]; done) | (simp only [ints_size, *]; done) | rfl) (by first | exact ints_one _ _ | decide | simp [*]) ?_
   intro w1 hE1
   clear hE0
   simp only [qpB, qpC] at hE1
   simp only [qZ]
   repeat ((fail_if_success refine sqx ?_); go_step)
   refine bodyPost_ret (results_cell_row rfl _ _ _ _ _ (0, 0) _ rfl (hE1.get (i := 1) rfl) Tryz.underlying22 rfl (sz_of (n := 32) (by kernel_rfl) (by first | (simp only [ints_size, digs_length, List.length_replicate, List.length_cons, List.length_nil]; done) | (simp only [ints_size, *]; done) | rfl))) rfl ⟨rfl, hE1.below⟩

set_option maxHeartbeats 1000000 in
theorem qplus_any (N O : Nat) (hN : N < q) (hO : O < q) (w : World) :
  Gives 66 #[num N, num O] w (num ((N + O) % q)) := by
 obtain ⟨n0, n1, n2, n3, hn, h0, h1, h2, h3, HN⟩ := num_open N (Nat.lt_trans hN (by decide))
 obtain ⟨o0, o1, o2, o3, ho, g0, g1, g2, g3, HO⟩ := num_open O (Nat.lt_trans hO (by decide))
 rw [hn, ho]
 obtain ⟨c0, hc0⟩ : ∃ c, c = carW n0 o0 0 := ⟨_, rfl⟩
 obtain ⟨d0, hd0⟩ : ∃ c, c = sumW n0 o0 0 := ⟨_, rfl⟩
 obtain ⟨c1, hc1⟩ : ∃ c, c = carW n1 o1 c0 := ⟨_, rfl⟩
 obtain ⟨d1, hd1⟩ : ∃ c, c = sumW n1 o1 c0 := ⟨_, rfl⟩
 obtain ⟨c2, hc2⟩ : ∃ c, c = carW n2 o2 c1 := ⟨_, rfl⟩
 obtain ⟨d2, hd2⟩ : ∃ c, c = sumW n2 o2 c1 := ⟨_, rfl⟩
 obtain ⟨c3, hc3⟩ : ∃ c, c = carW n3 o3 c2 := ⟨_, rfl⟩
 obtain ⟨d3, hd3⟩ : ∃ c, c = sumW n3 o3 c2 := ⟨_, rfl⟩
 have l0 : c0 ≤ 1 := hc0 ▸ carW_le h0 g0 (by decide)
 have l1 : c1 ≤ 1 := hc1 ▸ carW_le h1 g1 l0
 have l2 : c2 ≤ 1 := hc2 ▸ carW_le h2 g2 l1
 have s0 : ∀ w, (callFunc 95 #[.int .u64 n0, .int .u64 o0, .int .u64 0]).run Tryz.prog w = .ok (.value (.tuple #[.int .u64 d0, .int .u64 c0])) w := fun w => by rw [hd0, hc0]; exact run_Add64 n0 o0 0 (by decide) w
 have s1 : ∀ w, (callFunc 95 #[.int .u64 n1, .int .u64 o1, .int .u64 c0]).run Tryz.prog w = .ok (.value (.tuple #[.int .u64 d1, .int .u64 c1])) w := fun w => by rw [hd1, hc1]; exact run_Add64 n1 o1 c0 l0 w
 have s2 : ∀ w, (callFunc 95 #[.int .u64 n2, .int .u64 o2, .int .u64 c1]).run Tryz.prog w = .ok (.value (.tuple #[.int .u64 d2, .int .u64 c2])) w := fun w => by rw [hd2, hc2]; exact run_Add64 n2 o2 c1 l1 w
 have s3 : ∀ w, (callFunc 95 #[.int .u64 n3, .int .u64 o3, .int .u64 c2]).run Tryz.prog w = .ok (.value (.tuple #[.int .u64 d3, .int .u64 c3])) w := fun w => by rw [hd3, hc3]; exact run_Add64 n3 o3 c2 l2 w
 have HS : Value.agg (ints .u64 [d0, d1, d2, d3]) = num (N + O) := plus_num h0 h1 h2 h3 g0 g1 g2 g3 HN HO hN hO hc0 hd0 hc1 hd1 hc2 hd2 hc3 hd3
 have HM := qminus_any (N + O) q (Nat.lt_trans (Nat.add_lt_add hN hO) (by decide)) (by decide)
 rw [← HS] at HM
 have HE := plus_end hN hO
 obtain ⟨u, hu⟩ : ∃ u, u = decide (N + O < q) := ⟨_, rfl⟩
 rw [← hu] at HM HE
 clear hu
 have HM' := Lib.hid HM
 have HS' := Lib.hid HS
 have HE' := Lib.hid HE
 clear HM HS HE hn ho h0 h1 h2 h3 g0 g1 g2 g3 HN HO hc0 hd0 hc1 hd1 hc2 hd2 hc3 hd3 hN hO l0 l1 l2
 go_enter Tryz.func66, Tryz.ntmps66
 go_wp2
 refine wp_loop_rounds 5 ?_
 iterate 4 (rw [rounds_succ]; go_wp2; go_region; go_wp2)
 rw [rounds_succ]
 go_wp2
 have hE0 : Env w [⟨w.heap.size + 1 + 1, 98, ints .u64 (List.replicate 4 0)⟩, ⟨w.heap.size + 1, 98, ints .u64 [o0, o1, o2, o3]⟩, ⟨w.heap.size, 98, ints .u64 [d0, d1, d2, d3]⟩] _ :=
  ((((((((Env.nil w).alloc _ _).alloc' _ _ (by simp)).alloc' _ _ (by simp)).drew).drew).drew).drew)
 refine wp_world (Env w [⟨w.heap.size + 1 + 1, 98, ints .u64 (List.replicate 4 0)⟩, ⟨w.heap.size + 1, 98, ints .u64 [o0, o1, o2, o3]⟩, ⟨w.heap.size, 98, ints .u64 [d0, d1, d2, d3]⟩]) hE0 ?_
 clear hE0 s0 s1 s2 s3
 intro w0 hE0
 cases u
 ·
  repeat ((fail_if_success refine sqx ?_); go_step)
  refine wp_region_env 7 (by kernel_rfl) (by kernel_rfl) (fun _ _ d _ _ h => by cases d <;> exact h) hE0 ?_
  refine headRun_load rfl rfl (fun w h => h.get (i := 2) rfl) Tryz.underlying98 rfl (sz_of (n := 4) (by kernel_rfl) (by first | (simp only [ints_size, digs_length, List.length_replicate, List.length_cons, List.length_nil]; done) | (simp only [ints_size, *]; done) | rfl)) ?_
  simp only [qZ]
  refine headRun_call (fun w1 => by go_simp) (fun w1 hW => q_any _) ?_
  simp only [qZ]
  refine headRun_call (fun w1 => by go_simp) (fun w1 hW => HM'.out _) ?_
  simp only [qZ]
  apply headRun_val
  ·intro w1 h1
   go_simp
   with_reducible rfl
  simp only [qZ]
  apply headRun_val
  ·intro w1 h1
   go_simp
   with_reducible rfl
  simp only [qZ]
  apply headRun_val
  ·intro w1 h1
   go_simp
   with_reducible rfl
  simp only [qZ]
  refine headRun_alloc rfl rfl al_num ?_
  refine headRun_nil (endK1 ?_)
  intro g90 w1 hE1
  clear hE0
  simp only [List.drop_succ_cons, List.drop_zero, Act.put, qpA, qpB, qpC]
  refine wl_store (i := 0) hE1 rfl rfl rfl rfl rfl (sz_of (n := 4) (by kernel_rfl) (by first | (simp only [ints_size, digs_length, List.length_replicate, List.length_cons, List.length_nil]; done) | (simp only [ints_size, *]; done) | rfl)) (by first | (simp only [ints_size, digs_length, List.length_replicate, List.length_cons, List.length_nil]; done) | (simp only [ints_size, *]; done) | rfl) (by first | exact ints_one _ _ | decide | simp [*]) ?_
  intro w2 hE2
  clear hE1
  simp only [qpB, qpC] at hE2
  simp only [qZ]
  apply wl_val rfl
  ·go_simp
   with_reducible rfl
  simp only [qZ]
  repeat ((fail_if_success refine sqx ?_); go_step)
  apply wl_val rfl
  ·go_simp
   with_reducible rfl
  simp only [qZ]
  apply wl_val rfl
  ·go_simp
   with_reducible rfl
  simp only [qZ]
  repeat ((fail_if_success refine sqx ?_); go_step)
  refine wl_load (i := 0) hE2 rfl rfl rfl rfl Tryz.underlying98 rfl (sz_of (n := 4) (by kernel_rfl) (by first | (simp only [ints_size, digs_length, List.length_replicate, List.length_cons, List.length_nil]; done) | (simp only [ints_size, *]; done) | rfl)) ?_
  simp only [qZ]
  refine wl_store (i := 1) hE2 rfl rfl rfl rfl rfl (sz_of (n := 4) (by kernel_rfl) (by first | (simp only [ints_size, digs_length, List.length_replicate, List.length_cons, List.length_nil]; done) | (simp only [ints_size, *]; done) | rfl)) (by first | (simp only [ints_size, digs_length, List.length_replicate, List.length_cons, List.length_nil]; done) | (simp only [ints_size, *]; done) | rfl) (by first | exact ints_one _ _ | decide | simp [*]) ?_
  intro w3 hE3
  clear hE2
  simp only [qpB, qpC] at hE3
  simp only [qZ]
  repeat ((fail_if_success refine sqx ?_); go_step)
  refine bodyPost_ret (results_cell_row rfl _ _ _ _ _ (0, 0) _ rfl (hE3.get (i := 1) rfl) Tryz.underlying98 rfl (sz_of (n := 4) (by kernel_rfl) (by first | (simp only [ints_size, digs_length, List.length_replicate, List.length_cons, List.length_nil]; done) | (simp only [ints_size, *]; done) | rfl))) rfl ⟨by rw [← HE'.out.2 rfl], hE3.below⟩
 ·
  repeat ((fail_if_success refine sqx ?_); go_step)
  refine wp_region_env 7 (by kernel_rfl) (by kernel_rfl) (fun _ _ d _ _ h => by cases d <;> exact h) hE0 ?_
  refine headRun_load rfl rfl (fun w h => h.get (i := 2) rfl) Tryz.underlying98 rfl (sz_of (n := 4) (by kernel_rfl) (by first | (simp only [ints_size, digs_length, List.length_replicate, List.length_cons, List.length_nil]; done) | (simp only [ints_size, *]; done) | rfl)) ?_
  simp only [qZ]
  refine headRun_call (fun w1 => by go_simp) (fun w1 hW => q_any _) ?_
  simp only [qZ]
  refine headRun_call (fun w1 => by go_simp) (fun w1 hW => HM'.out _) ?_
  simp only [qZ]
  apply headRun_val
  ·intro w1 h1
   go_simp
   with_reducible rfl
  simp only [qZ]
  apply headRun_val
  ·intro w1 h1
   go_simp
   with_reducible rfl
  simp only [qZ]
  apply headRun_val
  ·intro w1 h1
   go_simp
   with_reducible rfl
  simp only [qZ]
  refine headRun_alloc rfl rfl al_num ?_
  refine headRun_nil (endK1 ?_)
  intro g90 w1 hE1
  clear hE0
  simp only [List.drop_succ_cons, List.drop_zero, Act.put, qpA, qpB, qpC]
  refine wl_store (i := 0) hE1 rfl rfl rfl rfl rfl (sz_of (n := 4) (by kernel_rfl) (by first | (simp only [ints_size, digs_length, List.length_replicate, List.length_cons, List.length_nil]; done) | (simp only [ints_size, *]; done) | rfl)) (by first | (simp only [ints_size, digs_length, List.length_replicate, List.length_cons, List.length_nil]; done) | (simp only [ints_size, *]; done) | rfl) (by first | exact ints_one _ _ | decide | simp [*]) ?_
  intro w2 hE2
  clear hE1
  simp only [qpB, qpC] at hE2
  simp only [qZ]
  apply wl_val rfl
  ·go_simp
   with_reducible rfl
  simp only [qZ]
  repeat ((fail_if_success refine sqx ?_); go_step)
  apply wl_val rfl
  ·go_simp
   with_reducible rfl
  simp only [qZ]
  apply wl_val rfl
  ·go_simp
   with_reducible rfl
  simp only [qZ]
  repeat ((fail_if_success refine sqx ?_); go_step)
  refine wl_load (i := 3) hE2 rfl rfl rfl rfl Tryz.underlying98 rfl (sz_of (n := 4) (by kernel_rfl) (by first | (simp only [ints_size, digs_length, List.length_replicate, List.length_cons, List.length_nil]; done) | (simp only [ints_size, *]; done) | rfl)) ?_
  simp only [qZ]
  refine wl_store (i := 1) hE2 rfl rfl rfl rfl rfl (sz_of (n := 4) (by kernel_rfl) (by first | (simp only [ints_size, digs_length, List.length_replicate, List.length_cons, List.length_nil]; done) | (simp only [ints_size, *]; done) | rfl)) (by first | (simp only [ints_size, digs_length, List.length_replicate, List.length_cons, List.length_nil]; done) | (simp only [ints_size, *]; done) | rfl) (by first | exact ints_one _ _ | decide | simp [*]) ?_
  intro w3 hE3
  clear hE2
  simp only [qpB, qpC] at hE3
  simp only [qZ]
  repeat ((fail_if_success refine sqx ?_); go_step)
  refine bodyPost_ret (results_cell_row rfl _ _ _ _ _ (0, 0) _ rfl (hE3.get (i := 1) rfl) Tryz.underlying98 rfl (sz_of (n := 4) (by kernel_rfl) (by first | (simp only [ints_size, digs_length, List.length_replicate, List.length_cons, List.length_nil]; done) | (simp only [ints_size, *]; done) | rfl))) rfl ⟨by rw [← HE'.out.1 rfl, ← HS'.out], hE3.below⟩
end Go.Proofs.YthddoelflmoedaaGreat
namespace Go.Proofs.YthddoelflmoedaaGreat
open Go.RowKit
set_option maxRecDepth 100000

theorem or_word {x c s : Nat} (hx : x < 2 ^ s) (hxw : x < 18446744073709551616) (hc : c * 2 ^ s < 18446744073709551616) : bits .or .u64 (x : Int) (IntKind.u64.wrap ((c : Int) * 2 ^ s)) = ((x + c * 2 ^ s : Nat) : Int) := by
 have e : IntKind.u64.wrap ((c : Int) * 2 ^ s) = ((c * 2 ^ s : Nat) : Int) := by
  rw [IntKind.wrap_u64]
  have : ((c : Int) * 2 ^ s) = ((c * 2 ^ s : Nat) : Int) := by simp
  rw [this]
  omega
 rw [e, u64_or_nat _ _ hxw hc, Nat.or_comm, nat_join s _ _ (by simp) hx]
 congr 1
 omega

theorem load_step {V c i n : Nat} (hV : V < 256 ^ i) (hc : c < 256) (hi : i < 8 * n) :
  bits .or .u64 ((V : Int) / 18446744073709551616 ^ (i / 8) % 18446744073709551616) (IntKind.u64.wrap (IntKind.u64.wrap (c : Int) * 2 ^ (8 * (i % 8)))) = ((V / 18446744073709551616 ^ (i / 8) % 18446744073709551616 + c * 2 ^ (8 * (i % 8)) : Nat) : Int) := by
 obtain ⟨-, h1, h2⟩ := word_of_byte hV hc hi
 have e : IntKind.u64.wrap (c : Int) = (c : Int) := by rw [IntKind.wrap_u64]; omega
 have e2 : ((V : Int) / 18446744073709551616 ^ (i / 8) % 18446744073709551616) = ((V / 18446744073709551616 ^ (i / 8) % 18446744073709551616 : Nat) : Int) := by simp
 rw [e, e2]
 exact or_word h1 (Nat.mod_lt _ (by decide)) h2

set_option maxHeartbeats 2000000 in
theorem load4_any (g : Nat) (l : List Nat) (T : TypeId) (hl : l.length = 8 * 4) (dl : Digs 256 l) (w : World) (hg : w.heap[g]? = some (.cells (ints .u8 l) T (0, 0))) :
  Calls Tryz.prog 101 #[.slice (some ⟨g, 0, none⟩) (8 * 4) (8 * 4)] w fun e w' => ∃ g', e = .returned (.slice (some ⟨g', 0, none⟩) 4 4) ∧ Below w.heap.size w w' ∧ w.heap.size ≤ g' ∧ w'.heap[g']? = some (.cells (ints .u64 (digs 18446744073709551616 4 (val 256 l))) 50 (0, 0)) := by
 have hlt : g < w.heap.size := (Array.getElem?_eq_some_iff.1 hg).1
 have hE0 := Env.nil w
 have Hl := Lib.hid hl
 clear hl
 have Hg := Lib.hid hg
 clear hg
 go_enter Tryz.func101, Tryz.ntmps101
 repeat ((fail_if_success refine sqx ?_); go_step)
 apply wl_val rfl
 ·go_simp
  with_reducible rfl
 simp only [qZ]
 repeat ((fail_if_success refine sqx ?_); go_step)
 iterate 3
  apply wl_val rfl
  ·go_simp
   try go_bits
   with_reducible rfl
  simp only [qZ]
 refine wl_make (k := .u64) (b := 8) hE0 rfl rfl rfl rfl Tryz.underlying102 (by kernel_rfl) (by decide) (by decide) ?_
 intro g' w1 hE1
 clear hE0
 simp only [qZ]
 go_wp2
 go_loopw [4, 5, 12] (fun _ _ i wr => ∃ k : Nat, k ≤ l.length ∧ i = .int .i64 k ∧ Env w [⟨g', 50, ints .u64 (digs 18446744073709551616 (l.length / 8) (val 256 (l.take k)))⟩] wr) (fun _ _ i _ => l.length - (intOf i).toNat)
 case atStart => exact ⟨0, Nat.zero_le _, rfl, by rw [Hl.out]; simpa [val, digs] using hE1⟩
 case round =>
  obtain ⟨k, hk, rfl, hE⟩ := hrel
  have hlen := Hl.out
  by_cases hlt' : k < l.length
  ·have hgr : wr.heap[g]? = some (.cells (ints .u8 l) T (0, 0)) := (hE.below.block g hlt).trans Hg.out
   have ca := cell_of_row wr g k _ _ _ hgr
   rw [ints_get? _ _ _ hlt'] at ca
   have c0 := hE.cell (i := 0) rfl (k / 8)
   rw [ints_get? _ _ _ (by rw [digs_length]; omega), digs_getD _ _ _ _ (by omega)] at c0
   have f0 := hE.frozen (i := 0) rfl (k / 8)
   clear hgr
   have hx : IntKind.i64.wrap ((k : Int) / 8) = (k : Int) / 8 := by rw [IntKind.wrap_i64]; omega
   have hx' : (k : Int) / 8 < 4 := by omega
   have hx0 : (0 : Int) ≤ (k : Int) / 8 := by omega
   have hxt : ((k : Int) / 8).toNat = k / 8 := by omega
   have htm : (k : Int).tmod 8 = (k : Int) % 8 := Int.tmod_eq_emod_of_nonneg (by omega)
   have hm8 : IntKind.i64.wrap (8 * (k : Int).tmod 8) = 8 * ((k : Int) % 8) := by rw [htm, IntKind.wrap_i64]; omega
   have hmt : (8 * ((k : Int) % 8)).toNat = 8 * (k % 8) := by omega
   clear htm
   clear hlen
   go_wp2
   go_region
   go_wp2
   go_roundw
   case rel =>
    refine ⟨k + 1, by omega, by go_num, ?_⟩
    have hc : l[k] < 256 := dl.getElem hlt'
    have hV : val 256 (l.take k) < 256 ^ k := by
     have := val_lt (dl.take k)
     rwa [List.length_take, Nat.min_eq_left (by omega)] at this
    have hkn : k < 8 * (l.length / 8) := by have := Hl.out; omega
    have hE' := (hE.setCell (i := 0) rfl (k / 8) (.int .u64 ((val 256 (l.take k) / 18446744073709551616 ^ (k / 8) % 18446744073709551616 + l[k] * 2 ^ (8 * (k % 8)) : Nat) : Int))).drew
    rw [ints_set, ← (word_of_byte hV hc hkn).1, ← val_take_succ _ _ _ hlt'] at hE'
    rw [load_step hV hc hkn]
    exact hE'
   case measure => simp [intOf]; omega
  ·have hke : k = l.length := by omega
   subst hke
   have hfin := Hl.out
   go_wp2
   rw [List.take_of_length_le (Nat.le_refl _), hfin] at hE
   go_returns
   exact ⟨g', rfl, hE.below, hE.new _ (List.mem_cons_self ..), hE.get (i := 0) rfl⟩
set_option maxHeartbeats 2000000 in
theorem load8_any (g : Nat) (l : List Nat) (T : TypeId) (hl : l.length = 8 * 8) (dl : Digs 256 l) (w : World) (hg : w.heap[g]? = some (.cells (ints .u8 l) T (0, 0))) :
  Calls Tryz.prog 101 #[.slice (some ⟨g, 0, none⟩) (8 * 8) (8 * 8)] w fun e w' => ∃ g', e = .returned (.slice (some ⟨g', 0, none⟩) 8 8) ∧ Below w.heap.size w w' ∧ w.heap.size ≤ g' ∧ w'.heap[g']? = some (.cells (ints .u64 (digs 18446744073709551616 8 (val 256 l))) 50 (0, 0)) := by
 have hlt : g < w.heap.size := (Array.getElem?_eq_some_iff.1 hg).1
 have hE0 := Env.nil w
 have Hl := Lib.hid hl
 clear hl
 have Hg := Lib.hid hg
 clear hg
 go_enter Tryz.func101, Tryz.ntmps101
 repeat ((fail_if_success refine sqx ?_); go_step)
 apply wl_val rfl
 ·go_simp
  with_reducible rfl
 simp only [qZ]
 repeat ((fail_if_success refine sqx ?_); go_step)
 iterate 3
  apply wl_val rfl
  ·go_simp
   try go_bits
   with_reducible rfl
  simp only [qZ]
 refine wl_make (k := .u64) (b := 8) hE0 rfl rfl rfl rfl Tryz.underlying102 (by kernel_rfl) (by decide) (by decide) ?_
 intro g' w1 hE1
 clear hE0
 simp only [qZ]
 go_wp2
 go_loopw [4, 5, 12] (fun _ _ i wr => ∃ k : Nat, k ≤ l.length ∧ i = .int .i64 k ∧ Env w [⟨g', 50, ints .u64 (digs 18446744073709551616 (l.length / 8) (val 256 (l.take k)))⟩] wr) (fun _ _ i _ => l.length - (intOf i).toNat)
 case atStart => exact ⟨0, Nat.zero_le _, rfl, by rw [Hl.out]; simpa [val, digs] using hE1⟩
 case round =>
  obtain ⟨k, hk, rfl, hE⟩ := hrel
  have hlen := Hl.out
  by_cases hlt' : k < l.length
  ·have hgr : wr.heap[g]? = some (.cells (ints .u8 l) T (0, 0)) := (hE.below.block g hlt).trans Hg.out
   have ca := cell_of_row wr g k _ _ _ hgr
   rw [ints_get? _ _ _ hlt'] at ca
   have c0 := hE.cell (i := 0) rfl (k / 8)
   rw [ints_get? _ _ _ (by rw [digs_length]; omega), digs_getD _ _ _ _ (by omega)] at c0
   have f0 := hE.frozen (i := 0) rfl (k / 8)
   clear hgr
   have hx : IntKind.i64.wrap ((k : Int) / 8) = (k : Int) / 8 := by rw [IntKind.wrap_i64]; omega
   have hx' : (k : Int) / 8 < 8 := by omega
   have hx0 : (0 : Int) ≤ (k : Int) / 8 := by omega
   have hxt : ((k : Int) / 8).toNat = k / 8 := by omega
   have htm : (k : Int).tmod 8 = (k : Int) % 8 := Int.tmod_eq_emod_of_nonneg (by omega)
   have hm8 : IntKind.i64.wrap (8 * (k : Int).tmod 8) = 8 * ((k : Int) % 8) := by rw [htm, IntKind.wrap_i64]; omega
   have hmt : (8 * ((k : Int) % 8)).toNat = 8 * (k % 8) := by omega
   clear htm
   clear hlen
   go_wp2
   go_region
   go_wp2
   go_roundw
   case rel =>
    refine ⟨k + 1, by omega, by go_num, ?_⟩
    have hc : l[k] < 256 := dl.getElem hlt'
    have hV : val 256 (l.take k) < 256 ^ k := by
     have := val_lt (dl.take k)
     rwa [List.length_take, Nat.min_eq_left (by omega)] at this
    have hkn : k < 8 * (l.length / 8) := by have := Hl.out; omega
    have hE' := (hE.setCell (i := 0) rfl (k / 8) (.int .u64 ((val 256 (l.take k) / 18446744073709551616 ^ (k / 8) % 18446744073709551616 + l[k] * 2 ^ (8 * (k % 8)) : Nat) : Int))).drew
    rw [ints_set, ← (word_of_byte hV hc hkn).1, ← val_take_succ _ _ _ hlt'] at hE'
    rw [load_step hV hc hkn]
    exact hE'
   case measure => simp [intOf]; omega
  ·have hke : k = l.length := by omega
   subst hke
   have hfin := Hl.out
   go_wp2
   rw [List.take_of_length_le (Nat.le_refl _), hfin] at hE
   go_returns
   exact ⟨g', rfl, hE.below, hE.new _ (List.mem_cons_self ..), hE.get (i := 0) rfl⟩
end Go.Proofs.YthddoelflmoedaaGreat
namespace Go.Proofs.YthddoelflmoedaaGreat
open Go.RowKit
set_option maxRecDepth 100000

theorem bit_of_word (V j : Nat) : V / 18446744073709551616 ^ (j / 64) % 18446744073709551616 / 2 ^ (j % 64) % 2 = V / 2 ^ j % 2 := by
 have e : (18446744073709551616 : Nat) = 2 ^ 64 := by decide
 rw [e, ← Nat.pow_mul, mod_pow_div_mod (B := 2) _ 64 (j % 64) (Nat.mod_lt _ (by decide)), Nat.div_div_eq_div_mul, ← Nat.pow_add]
 congr 3
 omega
theorem half_step (V j : Nat) : V / 2 ^ j = 2 * (V / 2 ^ (j + 1)) + V / 2 ^ j % 2 := by
 rw [Nat.pow_succ, ← Nat.div_div_eq_div_mul]
 omega
theorem rest_step (V j : Nat) : (2 * (V / 2 ^ (j + 1) % q) + V / 2 ^ j % 2) % q = V / 2 ^ j % q := by
 conv => rhs; rw [half_step]
 rw [Nat.add_mod, Nat.mul_mod, Nat.mod_mod, ← Nat.mul_mod, ← Nat.add_mod]
theorem rest_lt (V j : Nat) : 2 * (V / 2 ^ (j + 1) % q) + V / 2 ^ j % 2 < 2 * q := by
 have h1 : V / 2 ^ (j + 1) % q < q := Nat.mod_lt _ (by decide)
 have h2 : V / 2 ^ j % 2 < 2 := Nat.mod_lt _ (by decide)
 generalize q = Q at *
 omega
theorem rest_end {M : Nat} (h : M < 2 * q) : (decide (M < q) = true → digs 18446744073709551616 4 M = digs 18446744073709551616 4 (M % q)) ∧ (decide (M < q) = false → digs 18446744073709551616 4 ((M + big256 - q) % big256) = digs 18446744073709551616 4 (M % q)) := by
 have e : (decide (M < q) = true → M = M % q) ∧ (decide (M < q) = false → (M + big256 - q) % big256 = M % q) := by
  unfold q big256 at *
  constructor
  ·intro h'
   have := of_decide_eq_true h'
   omega
  ·intro h'
   have := of_decide_eq_false h'
   omega
 exact ⟨fun h' => by rw [← e.1 h'], fun h' => by rw [e.2 h']⟩
theorem and_one (x : Nat) (h : x < 18446744073709551616) : bits .and .u64 (x : Int) 1 = ((x % 2 : Nat) : Int) := by
 rw [← nat_mask1 x]
 exact u64_and_nat x 1 h (by decide)

set_option maxHeartbeats 2000000 in
theorem rest4_any (g : Nat) (l : List Nat) (T : TypeId) (hl : l.length = 4) (dl : Digs 18446744073709551616 l) (w : World) (hg : w.heap[g]? = some (.cells (ints .u64 l) T (0, 0))) :
  Gives 65 #[.slice (some ⟨g, 0, none⟩) 4 4] w (num (val 18446744073709551616 l % q)) := by
 have hlt : g < w.heap.size := (Array.getElem?_eq_some_iff.1 hg).1
 have hE0 := Env.nil w
 have Hl := Lib.hid hl
 clear hl
 have Hg := Lib.hid hg
 clear hg
 have hV : val 18446744073709551616 l / 2 ^ (64 * 4) % q = 0 := by
  have := val_lt dl
  rw [Hl.out] at this
  rw [Nat.pow_mul 2 64 4, Nat.div_eq_of_lt this]
  rfl
 have HV := Lib.hid hV
 clear hV
 go_enter Tryz.func65, Tryz.ntmps65
 repeat ((fail_if_success refine sqx ?_); go_step)
 refine wl_alloc hE0 rfl rfl al_num ?_
 intro g0 w1 hE1
 clear hE0
 simp only [qZ]
 repeat ((fail_if_success refine sqx ?_); go_step)
 refine wl_alloc hE1 rfl rfl al_num ?_
 intro g1 w2 hE2
 clear hE1
 simp only [qZ]
 repeat ((fail_if_success refine sqx ?_); go_step)
 refine wl_call hE2 rfl (by go_simp) (q_any _) ?_
 intro w3 hE3
 clear hE2
 simp only [qZ]
 refine wl_alloc hE3 rfl rfl al_num ?_
 intro g2 w4 hE4
 clear hE3
 simp only [qZ]
 refine wl_store (i := 0) hE4 rfl rfl rfl rfl rfl (sz_of (n := 4) (by kernel_rfl) (by first | (simp only [ints_size, digs_length, List.length_replicate, List.length_cons, List.length_nil]; done) | (simp only [ints_size, *]; done) | rfl)) (by first | (simp only [ints_size, digs_length, List.length_replicate, List.length_cons, List.length_nil]; done) | (simp only [ints_size, *]; done) | rfl) (by first | exact ints_one _ _ | decide | simp [*]) ?_
 intro w5 hE5
 clear hE4
 simp only [qpB, qpC] at hE5
 simp only [qZ]
 go_wp2
 go_loopw [5, 6, 7] (fun i _ _ wr => ∃ k : Nat, k ≤ 64 * 4 ∧ i = .int .i64 ((k : Int) - 1) ∧ Env w [⟨g2, 98, ints .u64 (digs 18446744073709551616 4 q)⟩, ⟨g1, 98, ints .u64 (digs 18446744073709551616 4 (val 18446744073709551616 l / 2 ^ k % q))⟩, ⟨g0, 98, ints .u64 (List.replicate 4 0)⟩] wr) (fun i _ _ _ => (intOf i + 1).toNat)
 case atStart => exact ⟨64 * 4, Nat.le_refl _, rfl, by rw [HV.out]; exact hE5⟩
 case round =>
  obtain ⟨k, hk, rfl, hE0⟩ := hrel
  cases k with
  | zero =>
   have hj : ((0 : Nat) : Int) - 1 = -1 := rfl
   rw [hj]
   clear hj
   repeat ((fail_if_success refine sqx ?_); go_step)
   apply wl_val rfl
   ·go_simp
    with_reducible rfl
   simp only [qZ]
   apply wl_val rfl
   ·go_simp
    with_reducible rfl
   simp only [qZ]
   repeat ((fail_if_success refine sqx ?_); go_step)
   refine wl_load (i := 1) hE0 rfl rfl rfl rfl Tryz.underlying98 rfl (sz_of (n := 4) (by kernel_rfl) (by first | (simp only [ints_size, digs_length, List.length_replicate, List.length_cons, List.length_nil]; done) | (simp only [ints_size, *]; done) | rfl)) ?_
   simp only [qZ]
   refine wl_store (i := 2) hE0 rfl rfl rfl rfl rfl (sz_of (n := 4) (by kernel_rfl) (by first | (simp only [ints_size, digs_length, List.length_replicate, List.length_cons, List.length_nil]; done) | (simp only [ints_size, *]; done) | rfl)) (by first | (simp only [ints_size, digs_length, List.length_replicate, List.length_cons, List.length_nil]; done) | (simp only [ints_size, *]; done) | rfl) (by first | exact ints_one _ _ | decide | simp [*]) ?_
   intro w1 hE1
   clear hE0
   simp only [qpB, qpC] at hE1
   simp only [qZ]
   repeat ((fail_if_success refine sqx ?_); go_step)
   refine bodyPost_ret (results_cell_row rfl _ _ _ _ _ (0, 0) _ rfl (hE1.get (i := 2) rfl) Tryz.underlying98 rfl (sz_of (n := 4) (by kernel_rfl) (by first | (simp only [ints_size, digs_length, List.length_replicate, List.length_cons, List.length_nil]; done) | (simp only [ints_size, *]; done) | rfl))) rfl ⟨by rw [Nat.pow_zero, Nat.div_one], hE1.below⟩
  | succ j =>
   have hj : ((j + 1 : Nat) : Int) - 1 = (j : Int) := by omega
   rw [hj]
   clear hj
   have hj0 : (0 : Int) ≤ (j : Int) := by omega
   have hjl : j / 64 < l.length := by rw [Hl.out]; omega
   have hx : IntKind.i64.wrap ((j : Int) / 64) = (j : Int) / 64 := by rw [IntKind.wrap_i64]; omega
   have hx' : (j : Int) / 64 < 4 := by omega
   have hx0 : (0 : Int) ≤ (j : Int) / 64 := by omega
   have hxt : ((j : Int) / 64).toNat = j / 64 := by omega
   have htm : (j : Int).tmod 64 = (j : Int) % 64 := Int.tmod_eq_emod_of_nonneg (by omega)
   have hmt : ((j : Int) % 64).toNat = j % 64 := by omega
   have hb1 : val 18446744073709551616 l / 2 ^ j % 2 ≤ 1 := by omega
   have hgd : l.getD (j / 64) 0 = l[j / 64] := by simp [List.getD, hjl]
   have hbit : bits .and .u64 ((l[j / 64] : Nat) / 2 ^ (j % 64)) 1 = ((val 18446744073709551616 l / 2 ^ j % 2 : Nat) : Int) := by
    rw [← bit_of_word, val_div_mod dl (by decide), hgd, ← and_one _ (Nat.lt_of_le_of_lt (Nat.div_le_self _ _) (dl.getElem hjl))]
    simp
   have hMq := rest_lt (val 18446744073709551616 l) j
   have hMe := rest_step (val 18446744073709551616 l) j
   obtain ⟨b, hb⟩ : ∃ b, b = val 18446744073709551616 l / 2 ^ j % 2 := ⟨_, rfl⟩
   rw [← hb] at hMq hMe hbit hb1
   clear hb
   have hN : val 18446744073709551616 l / 2 ^ (j + 1) % q < q := Nat.mod_lt _ (by decide)
   obtain ⟨N, hNe⟩ : ∃ N, N = val 18446744073709551616 l / 2 ^ (j + 1) % q := ⟨_, rfl⟩
   rw [← hNe] at hMq hMe hN hE0
   clear hNe
   have hMb : (2 * N + b) % big256 = 2 * N + b := Nat.mod_eq_of_lt (Nat.lt_trans hMq (by decide))
   have HD : ∀ w, Gives _ _ w _ := double_any N b (Nat.lt_trans hN (by decide)) hb1
   rw [hMb] at HD
   obtain ⟨M, hM⟩ : ∃ M, M = 2 * N + b := ⟨_, rfl⟩
   rw [← hM] at hMq hMe HD
   clear hM hMb hN hb1
   have HM : ∀ w, Gives _ _ w _ := qminus_any M q (Nat.lt_trans hMq (by decide)) (by decide)
   have hMend := rest_end hMq
   rw [hMe] at hMend
   obtain ⟨u, hu⟩ : ∃ u, u = decide (M < q) := ⟨_, rfl⟩
   rw [← hu] at HM hMend
   clear hu hMq hMe
   have HD := Lib.hid HD
   have HM := Lib.hid HM
   have HE := Lib.hid hMend
   clear hMend
   repeat ((fail_if_success refine sqx ?_); go_step)
   apply wl_val rfl
   ·go_simp
    with_reducible rfl
   simp only [qZ]
   apply wl_val rfl
   ·go_simp
    with_reducible rfl
   simp only [qZ]
   repeat ((fail_if_success refine sqx ?_); go_step)
   refine wp_region_env 11 (by kernel_rfl) (by kernel_rfl) (fun _ _ d _ _ h => by cases d <;> exact h) hE0 ?_
   refine headRun_load rfl rfl (fun w h => h.get (i := 1) rfl) Tryz.underlying98 rfl (sz_of (n := 4) (by kernel_rfl) (by first | (simp only [ints_size, digs_length, List.length_replicate, List.length_cons, List.length_nil]; done) | (simp only [ints_size, *]; done) | rfl)) ?_
   simp only [qZ]
   apply headRun_val
   ·intro w1 h1
    go_simp
    with_reducible rfl
   simp only [qZ]
   apply headRun_val
   ·intro w1 h1
    go_simp
    with_reducible rfl
   simp only [qZ]
   apply headRun_val
   ·intro w1 h1
    go_simp
    with_reducible rfl
   simp only [qZ]
   apply headRun_val
   ·intro w1 h1
    go_simp
    with_reducible rfl
   simp only [qZ]
   apply headRun_val
   ·intro w1 h1
    have ca := cell_of_row w1 g (j / 64) _ _ _ ((h1.below.block g hlt).trans Hg.out)
    rw [ints_get? _ _ _ hjl] at ca
    go_simp
    with_reducible rfl
   simp only [qZ]
   apply headRun_val
   ·intro w1 h1
    go_simp
    with_reducible rfl
   simp only [qZ]
   apply headRun_val
   ·intro w1 h1
    go_simp
    with_reducible rfl
   simp only [qZ]
   apply headRun_val
   ·intro w1 h1
    go_simp
    with_reducible rfl
   simp only [qZ]
   apply headRun_val
   ·intro w1 h1
    go_simp
    with_reducible rfl
   simp only [qZ]
   refine headRun_call (fun w1 => by go_simp) (fun w1 hW => HD.out _) ?_
   simp only [qZ]
   refine headRun_nil (endK0 ?_)
   intro  w1 hE1
   clear hE0
   simp only [List.drop_succ_cons, List.drop_zero, Act.put, qpA, qpB, qpC]
   refine wl_store (i := 1) hE1 rfl rfl rfl rfl rfl (sz_of (n := 4) (by kernel_rfl) (by first | (simp only [ints_size, digs_length, List.length_replicate, List.length_cons, List.length_nil]; done) | (simp only [ints_size, *]; done) | rfl)) (by first | (simp only [ints_size, digs_length, List.length_replicate, List.length_cons, List.length_nil]; done) | (simp only [ints_size, *]; done) | rfl) (by first | exact ints_one _ _ | decide | simp [*]) ?_
   intro w2 hE2
   clear hE1
   simp only [qpB, qpC] at hE2
   simp only [qZ]
   repeat ((fail_if_success refine sqx ?_); go_step)
   refine wl_load (i := 1) hE2 rfl rfl rfl rfl Tryz.underlying98 rfl (sz_of (n := 4) (by kernel_rfl) (by first | (simp only [ints_size, digs_length, List.length_replicate, List.length_cons, List.length_nil]; done) | (simp only [ints_size, *]; done) | rfl)) ?_
   simp only [qZ]
   refine wl_load (i := 0) hE2 rfl rfl rfl rfl Tryz.underlying98 rfl (sz_of (n := 4) (by kernel_rfl) (by first | (simp only [ints_size, digs_length, List.length_replicate, List.length_cons, List.length_nil]; done) | (simp only [ints_size, *]; done) | rfl)) ?_
   simp only [qZ]
   refine wl_call hE2 rfl (by go_simp) (HM.out _) ?_
   intro w3 hE3
   clear hE2
   simp only [qZ]
   apply wl_val rfl
   ·go_simp
    with_reducible rfl
   simp only [qZ]
   apply wl_val rfl
   ·go_simp
    with_reducible rfl
   simp only [qZ]
   apply wl_val rfl
   ·go_simp
    with_reducible rfl
   simp only [qZ]
   refine wl_alloc hE3 rfl rfl al_num ?_
   intro g90 w4 hE4
   clear hE3
   simp only [qZ]
   refine wl_store (i := 0) hE4 rfl rfl rfl rfl rfl (sz_of (n := 4) (by kernel_rfl) (by first | (simp only [ints_size, digs_length, List.length_replicate, List.length_cons, List.length_nil]; done) | (simp only [ints_size, *]; done) | rfl)) (by first | (simp only [ints_size, digs_length, List.length_replicate, List.length_cons, List.length_nil]; done) | (simp only [ints_size, *]; done) | rfl) (by first | exact ints_one _ _ | decide | simp [*]) ?_
   intro w5 hE5
   clear hE4
   simp only [qpB, qpC] at hE5
   simp only [qZ]
   apply wl_val rfl
   ·go_simp
    with_reducible rfl
   simp only [qZ]
   have hjw : IntKind.i64.wrap ((j : Int) - 1) = (j : Int) - 1 := by rw [IntKind.wrap_i64]; omega
   cases u
   ·rw [HE.out.2 rfl] at hE5
    repeat ((fail_if_success refine sqx ?_); go_step)
    apply wl_val rfl
    ·go_simp
     with_reducible rfl
    simp only [qZ]
    apply wl_val rfl
    ·go_simp
     with_reducible rfl
    simp only [qZ]
    repeat ((fail_if_success refine sqx ?_); go_step)
    refine wl_load (i := 0) hE5 rfl rfl rfl rfl Tryz.underlying98 rfl (sz_of (n := 4) (by kernel_rfl) (by first | (simp only [ints_size, digs_length, List.length_replicate, List.length_cons, List.length_nil]; done) | (simp only [ints_size, *]; done) | rfl)) ?_
    simp only [qZ]
    refine wl_store (i := 2) hE5 rfl rfl rfl rfl rfl (sz_of (n := 4) (by kernel_rfl) (by first | (simp only [ints_size, digs_length, List.length_replicate, List.length_cons, List.length_nil]; done) | (simp only [ints_size, *]; done) | rfl)) (by first | (simp only [ints_size, digs_length, List.length_replicate, List.length_cons, List.length_nil]; done) | (simp only [ints_size, *]; done) | rfl) (by first | exact ints_one _ _ | decide | simp [*]) ?_
    intro w6 hE6
    clear hE5
    simp only [qpB, qpC] at hE6
    simp only [qZ]
    repeat ((fail_if_success refine sqx ?_); go_step)
    apply wl_val rfl
    ·go_simp
     with_reducible rfl
    simp only [qZ]
    apply wl_val rfl
    ·go_simp
     with_reducible rfl
    simp only [qZ]
    apply wl_val rfl
    ·go_simp
     with_reducible rfl
    simp only [qZ]
    go_wp2
    go_roundw
    case rel => exact ⟨j, by omega, rfl, hE6.sub (List.sublist_cons_self _ _)⟩
    case measure => simp [intOf]
   ·
    repeat ((fail_if_success refine sqx ?_); go_step)
    apply wl_val rfl
    ·go_simp
     with_reducible rfl
    simp only [qZ]
    apply wl_val rfl
    ·go_simp
     with_reducible rfl
    simp only [qZ]
    repeat ((fail_if_success refine sqx ?_); go_step)
    apply wl_val rfl
    ·go_simp
     with_reducible rfl
    simp only [qZ]
    apply wl_val rfl
    ·go_simp
     with_reducible rfl
    simp only [qZ]
    apply wl_val rfl
    ·go_simp
     with_reducible rfl
    simp only [qZ]
    go_wp2
    go_roundw
    case rel => exact ⟨j, by omega, rfl, by rw [← HE.out.1 rfl]; exact hE5.sub (List.sublist_cons_self _ _)⟩
    case measure => simp [intOf]
set_option maxHeartbeats 2000000 in
theorem rest8_any (g : Nat) (l : List Nat) (T : TypeId) (hl : l.length = 8) (dl : Digs 18446744073709551616 l) (w : World) (hg : w.heap[g]? = some (.cells (ints .u64 l) T (0, 0))) :
  Gives 65 #[.slice (some ⟨g, 0, none⟩) 8 8] w (num (val 18446744073709551616 l % q)) := by
 have hlt : g < w.heap.size := (Array.getElem?_eq_some_iff.1 hg).1
 have hE0 := Env.nil w
 have Hl := Lib.hid hl
 clear hl
 have Hg := Lib.hid hg
 clear hg
 have hV : val 18446744073709551616 l / 2 ^ (64 * 8) % q = 0 := by
  have := val_lt dl
  rw [Hl.out] at this
  rw [Nat.pow_mul 2 64 8, Nat.div_eq_of_lt this]
  rfl
 have HV := Lib.hid hV
 clear hV
 go_enter Tryz.func65, Tryz.ntmps65
 repeat ((fail_if_success refine sqx ?_); go_step)
 refine wl_alloc hE0 rfl rfl al_num ?_
 intro g0 w1 hE1
 clear hE0
 simp only [qZ]
 repeat ((fail_if_success refine sqx ?_); go_step)
 refine wl_alloc hE1 rfl rfl al_num ?_
 intro g1 w2 hE2
 clear hE1
 simp only [qZ]
 repeat ((fail_if_success refine sqx ?_); go_step)
 refine wl_call hE2 rfl (by go_simp) (q_any _) ?_
 intro w3 hE3
 clear hE2
 simp only [qZ]
 refine wl_alloc hE3 rfl rfl al_num ?_
 intro g2 w4 hE4
 clear hE3
 simp only [qZ]
 refine wl_store (i := 0) hE4 rfl rfl rfl rfl rfl (sz_of (n := 4) (by kernel_rfl) (by first | (simp only [ints_size, digs_length, List.length_replicate, List.length_cons, List.length_nil]; done) | (simp only [ints_size, *]; done) | rfl)) (by first | (simp only [ints_size, digs_length, List.length_replicate, List.length_cons, List.length_nil]; done) | (simp only [ints_size, *]; done) | rfl) (by first | exact ints_one _ _ | decide | simp [*]) ?_
 intro w5 hE5
 clear hE4
 simp only [qpB, qpC] at hE5
 simp only [qZ]
 go_wp2
 go_loopw [5, 6, 7] (fun i _ _ wr => ∃ k : Nat, k ≤ 64 * 8 ∧ i = .int .i64 ((k : Int) - 1) ∧ Env w [⟨g2, 98, ints .u64 (digs 18446744073709551616 4 q)⟩, ⟨g1, 98, ints .u64 (digs 18446744073709551616 4 (val 18446744073709551616 l / 2 ^ k % q))⟩, ⟨g0, 98, ints .u64 (List.replicate 4 0)⟩] wr) (fun i _ _ _ => (intOf i + 1).toNat)
 case atStart => exact ⟨64 * 8, Nat.le_refl _, rfl, by rw [HV.out]; exact hE5⟩
 case round =>
  obtain ⟨k, hk, rfl, hE0⟩ := hrel
  cases k with
  | zero =>
   have hj : ((0 : Nat) : Int) - 1 = -1 := rfl
   rw [hj]
   clear hj
   repeat ((fail_if_success refine sqx ?_); go_step)
   apply wl_val rfl
   ·go_simp
    with_reducible rfl
   simp only [qZ]
   apply wl_val rfl
   ·go_simp
    with_reducible rfl
   simp only [qZ]
   repeat ((fail_if_success refine sqx ?_); go_step)
   refine wl_load (i := 1) hE0 rfl rfl rfl rfl Tryz.underlying98 rfl (sz_of (n := 4) (by kernel_rfl) (by first | (simp only [ints_size, digs_length, List.length_replicate, List.length_cons, List.length_nil]; done) | (simp only [ints_size, *]; done) | rfl)) ?_
   simp only [qZ]
   refine wl_store (i := 2) hE0 rfl rfl rfl rfl rfl (sz_of (n := 4) (by kernel_rfl) (by first | (simp only [ints_size, digs_length, List.length_replicate, List.length_cons, List.length_nil]; done) | (simp only [ints_size, *]; done) | rfl)) (by first | (simp only [ints_size, digs_length, List.length_replicate, List.length_cons, List.length_nil]; done) | (simp only [ints_size, *]; done) | rfl) (by first | exact ints_one _ _ | decide | simp [*]) ?_
   intro w1 hE1
   clear hE0
   simp only [qpB, qpC] at hE1
   simp only [qZ]
   repeat ((fail_if_success refine sqx ?_); go_step)
   refine bodyPost_ret (results_cell_row rfl _ _ _ _ _ (0, 0) _ rfl (hE1.get (i := 2) rfl) Tryz.underlying98 rfl (sz_of (n := 4) (by kernel_rfl) (by first | (simp only [ints_size, digs_length, List.length_replicate, List.length_cons, List.length_nil]; done) | (simp only [ints_size, *]; done) | rfl))) rfl ⟨by rw [Nat.pow_zero, Nat.div_one], hE1.below⟩
  | succ j =>
   have hj : ((j + 1 : Nat) : Int) - 1 = (j : Int) := by omega
   rw [hj]
   clear hj
   have hj0 : (0 : Int) ≤ (j : Int) := by omega
   have hjl : j / 64 < l.length := by rw [Hl.out]; omega
   have hx : IntKind.i64.wrap ((j : Int) / 64) = (j : Int) / 64 := by rw [IntKind.wrap_i64]; omega
   have hx' : (j : Int) / 64 < 8 := by omega
   have hx0 : (0 : Int) ≤ (j : Int) / 64 := by omega
   have hxt : ((j : Int) / 64).toNat = j / 64 := by omega
   have htm : (j : Int).tmod 64 = (j : Int) % 64 := Int.tmod_eq_emod_of_nonneg (by omega)
   have hmt : ((j : Int) % 64).toNat = j % 64 := by omega
   have hb1 : val 18446744073709551616 l / 2 ^ j % 2 ≤ 1 := by omega
   have hgd : l.getD (j / 64) 0 = l[j / 64] := by simp [List.getD, hjl]
   have hbit : bits .and .u64 ((l[j / 64] : Nat) / 2 ^ (j % 64)) 1 = ((val 18446744073709551616 l / 2 ^ j % 2 : Nat) : Int) := by
    rw [← bit_of_word, val_div_mod dl (by decide), hgd, ← and_one _ (Nat.lt_of_le_of_lt (Nat.div_le_self _ _) (dl.getElem hjl))]
    simp
   have hMq := rest_lt (val 18446744073709551616 l) j
   have hMe := rest_step (val 18446744073709551616 l) j
   obtain ⟨b, hb⟩ : ∃ b, b = val 18446744073709551616 l / 2 ^ j % 2 := ⟨_, rfl⟩
   rw [← hb] at hMq hMe hbit hb1
   clear hb
   have hN : val 18446744073709551616 l / 2 ^ (j + 1) % q < q := Nat.mod_lt _ (by decide)
   obtain ⟨N, hNe⟩ : ∃ N, N = val 18446744073709551616 l / 2 ^ (j + 1) % q := ⟨_, rfl⟩
   rw [← hNe] at hMq hMe hN hE0
   clear hNe
   have hMb : (2 * N + b) % big256 = 2 * N + b := Nat.mod_eq_of_lt (Nat.lt_trans hMq (by decide))
   have HD : ∀ w, Gives _ _ w _ := double_any N b (Nat.lt_trans hN (by decide)) hb1
   rw [hMb] at HD
   obtain ⟨M, hM⟩ : ∃ M, M = 2 * N + b := ⟨_, rfl⟩
   rw [← hM] at hMq hMe HD
   clear hM hMb hN hb1
   have HM : ∀ w, Gives _ _ w _ := qminus_any M q (Nat.lt_trans hMq (by decide)) (by decide)
   have hMend := rest_end hMq
   rw [hMe] at hMend
   obtain ⟨u, hu⟩ : ∃ u, u = decide (M < q) := ⟨_, rfl⟩
   rw [← hu] at HM hMend
   clear hu hMq hMe
   have HD := Lib.hid HD
   have HM := Lib.hid HM
   have HE := Lib.hid hMend
   clear hMend
   repeat ((fail_if_success refine sqx ?_); go_step)
   apply wl_val rfl
   ·go_simp
    with_reducible rfl
   simp only [qZ]
   apply wl_val rfl
   ·go_simp
    with_reducible rfl
   simp only [qZ]
   repeat ((fail_if_success refine sqx ?_); go_step)
   refine wp_region_env 11 (by kernel_rfl) (by kernel_rfl) (fun _ _ d _ _ h => by cases d <;> exact h) hE0 ?_
   refine headRun_load rfl rfl (fun w h => h.get (i := 1) rfl) Tryz.underlying98 rfl (sz_of (n := 4) (by kernel_rfl) (by first | (simp only [ints_size, digs_length, List.length_replicate, List.length_cons, List.length_nil]; done) | (simp only [ints_size, *]; done) | rfl)) ?_
   simp only [qZ]
   apply headRun_val
   ·intro w1 h1
    go_simp
    with_reducible rfl
   simp only [qZ]
   apply headRun_val
   ·intro w1 h1
    go_simp
    with_reducible rfl
   simp only [qZ]
   apply headRun_val
   ·intro w1 h1
    go_simp
    with_reducible rfl
   simp only [qZ]
   apply headRun_val
   ·intro w1 h1
    go_simp
    with_reducible rfl
   simp only [qZ]
   apply headRun_val
   ·intro w1 h1
    have ca := cell_of_row w1 g (j / 64) _ _ _ ((h1.below.block g hlt).trans Hg.out)
    rw [ints_get? _ _ _ hjl] at ca
    go_simp
    with_reducible rfl
   simp only [qZ]
   apply headRun_val
   ·intro w1 h1
    go_simp
    with_reducible rfl
   simp only [qZ]
   apply headRun_val
   ·intro w1 h1
    go_simp
    with_reducible rfl
   simp only [qZ]
   apply headRun_val
   ·intro w1 h1
    go_simp
    with_reducible rfl
   simp only [qZ]
   apply headRun_val
   ·intro w1 h1
    go_simp
    with_reducible rfl
   simp only [qZ]
   refine headRun_call (fun w1 => by go_simp) (fun w1 hW => HD.out _) ?_
   simp only [qZ]
   refine headRun_nil (endK0 ?_)
   intro  w1 hE1
   clear hE0
   simp only [List.drop_succ_cons, List.drop_zero, Act.put, qpA, qpB, qpC]
   refine wl_store (i := 1) hE1 rfl rfl rfl rfl rfl (sz_of (n := 4) (by kernel_rfl) (by first | (simp only [ints_size, digs_length, List.length_replicate, List.length_cons, List.length_nil]; done) | (simp only [ints_size, *]; done) | rfl)) (by first | (simp only [ints_size, digs_length, List.length_replicate, List.length_cons, List.length_nil]; done) | (simp only [ints_size, *]; done) | rfl) (by first | exact ints_one _ _ | decide | simp [*]) ?_
   intro w2 hE2
   clear hE1
   simp only [qpB, qpC] at hE2
   simp only [qZ]
   repeat ((fail_if_success refine sqx ?_); go_step)
   refine wl_load (i := 1) hE2 rfl rfl rfl rfl Tryz.underlying98 rfl (sz_of (n := 4) (by kernel_rfl) (by first | (simp only [ints_size, digs_length, List.length_replicate, List.length_cons, List.length_nil]; done) | (simp only [ints_size, *]; done) | rfl)) ?_
   simp only [qZ]
   refine wl_load (i := 0) hE2 rfl rfl rfl rfl Tryz.underlying98 rfl (sz_of (n := 4) (by kernel_rfl) (by first | (simp only [ints_size, digs_length, List.length_replicate, List.length_cons, List.length_nil]; done) | (simp only [ints_size, *]; done) | rfl)) ?_
   simp only [qZ]
   refine wl_call hE2 rfl (by go_simp) (HM.out _) ?_
   intro w3 hE3
   clear hE2
   simp only [qZ]
   apply wl_val rfl
   ·go_simp
    with_reducible rfl
   simp only [qZ]
   apply wl_val rfl
   ·go_simp
    with_reducible rfl
   simp only [qZ]
   apply wl_val rfl
   ·go_simp
    with_reducible rfl
   simp only [qZ]
   refine wl_alloc hE3 rfl rfl al_num ?_
   intro g90 w4 hE4
   clear hE3
   simp only [qZ]
   refine wl_store (i := 0) hE4 rfl rfl rfl rfl rfl (sz_of (n := 4) (by kernel_rfl) (by first | (simp only [ints_size, digs_length, List.length_replicate, List.length_cons, List.length_nil]; done) | (simp only [ints_size, *]; done) | rfl)) (by first | (simp only [ints_size, digs_length, List.length_replicate, List.length_cons, List.length_nil]; done) | (simp only [ints_size, *]; done) | rfl) (by first | exact ints_one _ _ | decide | simp [*]) ?_
   intro w5 hE5
   clear hE4
   simp only [qpB, qpC] at hE5
   simp only [qZ]
   apply wl_val rfl
   ·go_simp
    with_reducible rfl
   simp only [qZ]
   have hjw : IntKind.i64.wrap ((j : Int) - 1) = (j : Int) - 1 := by rw [IntKind.wrap_i64]; omega
   cases u
   ·rw [HE.out.2 rfl] at hE5
    repeat ((fail_if_success refine sqx ?_); go_step)
    apply wl_val rfl
    ·go_simp
     with_reducible rfl
    simp only [qZ]
    apply wl_val rfl
    ·go_simp
     with_reducible rfl
    simp only [qZ]
    repeat ((fail_if_success refine sqx ?_); go_step)
    refine wl_load (i := 0) hE5 rfl rfl rfl rfl Tryz.underlying98 rfl (sz_of (n := 4) (by kernel_rfl) (by first | (simp only [ints_size, digs_length, List.length_replicate, List.length_cons, List.length_nil]; done) | (simp only [ints_size, *]; done) | rfl)) ?_
    simp only [qZ]
    refine wl_store (i := 2) hE5 rfl rfl rfl rfl rfl (sz_of (n := 4) (by kernel_rfl) (by first | (simp only [ints_size, digs_length, List.length_replicate, List.length_cons, List.length_nil]; done) | (simp only [ints_size, *]; done) | rfl)) (by first | (simp only [ints_size, digs_length, List.length_replicate, List.length_cons, List.length_nil]; done) | (simp only [ints_size, *]; done) | rfl) (by first | exact ints_one _ _ | decide | simp [*]) ?_
    intro w6 hE6
    clear hE5
    simp only [qpB, qpC] at hE6
    simp only [qZ]
    repeat ((fail_if_success refine sqx ?_); go_step)
    apply wl_val rfl
    ·go_simp
     with_reducible rfl
    simp only [qZ]
    apply wl_val rfl
    ·go_simp
     with_reducible rfl
    simp only [qZ]
    apply wl_val rfl
    ·go_simp
     with_reducible rfl
    simp only [qZ]
    go_wp2
    go_roundw
    case rel => exact ⟨j, by omega, rfl, hE6.sub (List.sublist_cons_self _ _)⟩
    case measure => simp [intOf]
   ·
    repeat ((fail_if_success refine sqx ?_); go_step)
    apply wl_val rfl
    ·go_simp
     with_reducible rfl
    simp only [qZ]
    apply wl_val rfl
    ·go_simp
     with_reducible rfl
    simp only [qZ]
    repeat ((fail_if_success refine sqx ?_); go_step)
    apply wl_val rfl
    ·go_simp
     with_reducible rfl
    simp only [qZ]
    apply wl_val rfl
    ·go_simp
     with_reducible rfl
    simp only [qZ]
    apply wl_val rfl
    ·go_simp
     with_reducible rfl
    simp only [qZ]
    go_wp2
    go_roundw
    case rel => exact ⟨j, by omega, rfl, by rw [← HE.out.1 rfl]; exact hE5.sub (List.sublist_cons_self _ _)⟩
    case measure => simp [intOf]
end Go.Proofs.YthddoelflmoedaaGreat
namespace Go.Proofs.YthddoelflmoedaaGreat
open Go.RowKit
set_option maxRecDepth 100000

structure TInv (I S a O K V : Nat) (X : List Nat) : Prop where
 small : V < 18446744073709551616
 len : X.length = 8
 digs : Digs 18446744073709551616 X
 sum : val 18446744073709551616 X + 18446744073709551616 ^ (I + K) * V = S + 18446744073709551616 ^ I * (a * (O % 18446744073709551616 ^ K))
 zero : ∀ j, I + 4 ≤ j → X.getD j 0 = 0

theorem two_words {a b x V : Nat} (ha : a < 18446744073709551616) (hb : b < 18446744073709551616) (hx : x < 18446744073709551616) (hV : V < 18446744073709551616) :
  mulHi a b + carW (mulLo a b) x 0 < 18446744073709551616 ∧ mulHi a b + carW (mulLo a b) x 0 + carW (sumW (mulLo a b) x 0) V 0 < 18446744073709551616 ∧
  sumW (sumW (mulLo a b) x 0) V 0 + 18446744073709551616 * (mulHi a b + carW (mulLo a b) x 0 + carW (sumW (mulLo a b) x 0) V 0) = a * b + x + V := by
 have h1 := mul_hi_lo a b
 have h2 := sum_car (mulLo a b) x 0
 have h3 := sum_car (sumW (mulLo a b) x 0) V 0
 have h4 : a * b ≤ 18446744073709551615 * 18446744073709551615 := Nat.mul_le_mul (by omega) (by omega)
 have h5 := sumW_lt (sumW (mulLo a b) x 0) V 0
 generalize sumW (sumW (mulLo a b) x 0) V 0 = s2 at *
 generalize carW (sumW (mulLo a b) x 0) V 0 = c2 at *
 generalize sumW (mulLo a b) x 0 = s1 at *
 generalize carW (mulLo a b) x 0 = c1 at *
 generalize mulHi a b = hi at *
 generalize mulLo a b = lo at *
 generalize a * b = ab at *
 refine ⟨?_, ?_, ?_⟩ <;> omega

theorem row_key {v v' P Q s x V V' S a b R B : Nat} (t3 : s + B * V' = a * b + x + V) (hv : v' + P * Q * x = v + P * Q * s) (hs : v + P * Q * V = S + P * (a * R)) :
  v' + P * Q * B * V' = S + P * (a * (R + Q * b)) := by
 have e1 : P * Q * (s + B * V') = P * Q * (a * b + x + V) := by rw [t3]
 have e2 : P * (a * (R + Q * b)) = P * (a * R) + P * Q * (a * b) := by simp only [Nat.mul_add]; congr 1; simp only [Nat.mul_assoc, Nat.mul_left_comm, Nat.mul_comm]
 rw [e2, Nat.mul_assoc (P * Q)]
 simp only [Nat.mul_add] at e1
 omega

theorem TInv.step {I S a O K V : Nat} {X : List Nat} (h : TInv I S a O K V X) (hI : I < 4) (hK : K < 4) (ha : a < 18446744073709551616) {b x : Nat} (hb : b = O / 18446744073709551616 ^ K % 18446744073709551616) (hx : x = X.getD (I + K) 0) :
  TInv I S a O (K + 1) (mulHi a b + carW (mulLo a b) x 0 + carW (sumW (mulLo a b) x 0) V 0) (X.set (I + K) (sumW (sumW (mulLo a b) x 0) V 0)) := by
 have hbl : b < 18446744073709551616 := hb ▸ Nat.mod_lt _ (by decide)
 have hxl : x < 18446744073709551616 := hx ▸ h.digs.getD (by decide) _
 obtain ⟨-, t2, t3⟩ := two_words (V := V) ha hbl hxl h.small
 refine ⟨t2, by rw [List.length_set, h.len], h.digs.set _ (sumW_lt _ _ _), ?_, fun j hj => ?_⟩
 ·have hlt : I + K < X.length := by rw [h.len]; omega
  have hv := val_set (B := 18446744073709551616) X (I + K) (sumW (sumW (mulLo a b) x 0) V 0) hlt
  have hxe : X[I + K] = x := by rw [hx]; simp [List.getD, hlt]
  rw [hxe] at hv
  have hs := h.sum
  have hO : O % 18446744073709551616 ^ (K + 1) = O % 18446744073709551616 ^ K + 18446744073709551616 ^ K * b := by
   rw [Nat.pow_succ, Nat.mod_mul, ← hb]
  rw [hO, ← Nat.add_assoc, Nat.pow_succ]
  have hp : 18446744073709551616 ^ (I + K) = 18446744073709551616 ^ I * 18446744073709551616 ^ K := Nat.pow_add _ _ _
  generalize sumW (sumW (mulLo a b) x 0) V 0 = s at *
  generalize mulHi a b + carW (mulLo a b) x 0 + carW (sumW (mulLo a b) x 0) V 0 = V' at *
  rw [hp] at hs hv ⊢
  generalize val 18446744073709551616 (X.set (I + K) s) = v' at *
  generalize val 18446744073709551616 X = v at *
  generalize (18446744073709551616 : Nat) ^ I = P at *
  generalize O % 18446744073709551616 ^ K = R at *
  generalize (18446744073709551616 : Nat) ^ K = Q at *
  exact row_key t3 hv hs
 ·rw [List.getD_eq_getElem?_getD, List.getElem?_set_ne (by omega), ← List.getD_eq_getElem?_getD]
  exact h.zero j hj

structure OInv (I N O : Nat) (X : List Nat) : Prop where
 len : X.length = 8
 digs : Digs 18446744073709551616 X
 sum : val 18446744073709551616 X = N % 18446744073709551616 ^ I * O
 zero : ∀ j, I + 4 ≤ j → X.getD j 0 = 0

theorem OInv.enter {I N O : Nat} {X : List Nat} (h : OInv I N O X) (a : Nat) : TInv I (N % 18446744073709551616 ^ I * O) a O 0 0 X := by
 refine ⟨by decide, h.len, h.digs, ?_, h.zero⟩
 rw [h.sum, Nat.pow_zero, Nat.mod_one]
 simp

theorem TInv.leave {I N O V a : Nat} {X : List Nat} (h : TInv I (N % 18446744073709551616 ^ I * O) a O 4 V X) (hI : I < 4) (hO : O < big256) (ha : a = N / 18446744073709551616 ^ I % 18446744073709551616) : OInv (I + 1) N O (X.set (I + 4) V) := by
 have hlt : I + 4 < X.length := by rw [h.len]; omega
 refine ⟨by rw [List.length_set, h.len], h.digs.set _ h.small, ?_, fun j hj => ?_⟩
 ·have hv := val_set (B := 18446744073709551616) X (I + 4) V hlt
  have hz : X[I + 4] = 0 := by
   have := h.zero (I + 4) (Nat.le_refl _)
   simpa [List.getD, hlt] using this
  rw [hz, Nat.mul_zero, Nat.add_zero, h.sum, Nat.mod_eq_of_lt (a := O) (by simpa [big256] using hO)] at hv
  rw [hv, Nat.pow_succ, Nat.mod_mul, ← ha]
  grind
 ·rw [List.getD_eq_getElem?_getD, List.getElem?_set_ne (by omega), ← List.getD_eq_getElem?_getD]
  exact h.zero j (by omega)

theorem OInv.start (N O : Nat) : OInv 0 N O (List.replicate 8 0) :=
 ⟨by simp, Digs.replicate (by decide) 8, by rw [val_replicate, Nat.pow_zero, Nat.mod_one, Nat.zero_mul], fun j _ => by rw [List.getD_eq_getElem?_getD, List.getElem?_replicate]; split <;> rfl⟩

theorem OInv.final {N O : Nat} {X : List Nat} (h : OInv 4 N O X) (hN : N < big256) : X = Proofs.YthddoelflmoedaaGreat.digs 18446744073709551616 8 (N * O) := by
 have := h.sum
 rw [Nat.mod_eq_of_lt (by simpa [big256] using hN)] at this
 rw [← this, digs_val' h.digs h.len]

theorem al_twice (w : World) : (Instr.alloc 96 true (.tuple #[])).run Tryz.prog w = .ok (.pointer (some ⟨w.heap.size, 0, none⟩)) (w.alloc (.cells (ints .u64 (List.replicate 8 0)) 96)) := by kernel_rfl
theorem four_lt' {a b : Nat} (h : a < 4) (h' : b < 4) : IntKind.i64.wrap ((a : Int) + (b : Int)) = ((a + b : Nat) : Int) ∧ a + b < 8 := by
 constructor
 ·rw [IntKind.wrap_i64]; omega
 ·omega
theorem index_num (N I : Nat) (hI : I < 4) (w : World) : (Instr.index 98 (num N) (.int .i64 (I : Int))).run Tryz.prog w = .ok (.int .u64 ((N / 18446744073709551616 ^ I % 18446744073709551616 : Nat) : Int)) w := by
 obtain ⟨i, hi, -, hs, -⟩ := info_parts (P := Tryz.prog) (e := 50) (z := .int .u64 0) (size := 1) (bytes := 8) (by kernel_rfl)
 have h := run_index_row (P := Tryz.prog) (k := .u64) Tryz.underlying98 hi hs Tryz.underlying50 (digs 18446744073709551616 4 N) .i64 I (digs_length _ _ _) hI w
 rw [digs_getD _ _ _ _ hI] at h
 exact h

theorem add_zero_ (x y : Nat) (w : World) : (callFunc 95 #[.int .u64 x, .int .u64 y, .int .u64 0]).run Tryz.prog w = .ok (.value (.tuple #[.int .u64 (sumW x y 0 : Nat), .int .u64 (carW x y 0 : Nat)])) w :=
 run_Add64 x y 0 (by decide) w

set_option maxHeartbeats 2000000 in
theorem times_any (N O : Nat) (hN : N < big256) (hO : O < big256) (w : World) : Gives 64 #[num N, num O] w (.agg (ints .u64 (digs 18446744073709551616 8 (N * O)))) := by
 have hE0 := Env.nil w
 have HN := Lib.hid hN
 have HO := Lib.hid hO
 clear hN hO
 go_enter Tryz.func64, Tryz.ntmps64
 repeat ((fail_if_success refine sqx ?_); go_step)
 refine wl_box (cs := ints .u64 (digs 18446744073709551616 4 N)) hE0 rfl rfl rfl ?_
 intro g0 w1 hE1
 clear hE0
 simp only [qZ]
 refine wl_box (cs := ints .u64 (digs 18446744073709551616 4 O)) hE1 rfl rfl rfl ?_
 intro g1 w2 hE2
 clear hE1
 simp only [qZ]
 refine wl_alloc hE2 rfl rfl al_twice ?_
 intro g2 w3 hE3
 clear hE2
 simp only [qZ]
 repeat ((fail_if_success refine sqx ?_); go_step)
 refine wl_alloc hE3 rfl rfl al_twice ?_
 intro g3 w4 hE4
 clear hE3
 simp only [qZ]
 repeat ((fail_if_success refine sqx ?_); go_step)
 refine wl_load (i := 3) hE4 rfl rfl rfl rfl Tryz.underlying98 rfl (sz_of (n := 4) (by kernel_rfl) (by first | (simp only [ints_size, digs_length, List.length_replicate, List.length_cons, List.length_nil]; done) | (simp only [ints_size, *]; done) | rfl)) ?_
 simp only [qZ]
 apply wl_val rfl
 ·go_simp
  with_reducible rfl
 simp only [qZ]
 repeat ((fail_if_success refine sqx ?_); go_step)
 go_loopw [15] (fun i wr => ∃ (I : Nat) (X : List Nat), I ≤ 4 ∧ i = .int .i64 I ∧ OInv I N O X ∧ Env w [⟨g3, 96, ints .u64 X⟩, ⟨g2, 96, ints .u64 (List.replicate 8 0)⟩, ⟨g1, 98, ints .u64 (digs 18446744073709551616 4 O)⟩, ⟨g0, 98, ints .u64 (digs 18446744073709551616 4 N)⟩] wr) (fun i _ => 4 - (intOf i).toNat)
 case atStart => exact ⟨0, _, by decide, rfl, OInv.start N O, hE4⟩
 case round =>
  clear hE4
  obtain ⟨I, X, hI, rfl, hO, hE0⟩ := hrel
  by_cases hI4 : I < 4
  ·have HX := Lib.hid hO
   clear hO hI
   obtain ⟨a, ha⟩ : ∃ a, a = N / 18446744073709551616 ^ I % 18446744073709551616 := ⟨_, rfl⟩
   have Hi := fun w => index_num N I hI4 w
   rw [← ha] at Hi
   have Ha := Lib.hid ha
   clear ha
   repeat ((fail_if_success refine sqx ?_); go_step)
   apply wl_val rfl
   ·go_simp
    with_reducible rfl
   simp only [qZ]
   repeat ((fail_if_success refine sqx ?_); go_step)
   apply wl_val rfl
   ·go_simp
    with_reducible rfl
   simp only [qZ]
   apply wl_val rfl
   ·go_simp
    with_reducible rfl
   simp only [qZ]
   apply wl_val rfl
   ·go_simp
    with_reducible rfl
   simp only [qZ]
   apply wl_val rfl
   ·go_simp
    with_reducible rfl
   simp only [qZ]
   repeat ((fail_if_success refine sqx ?_); go_step)
   apply wl_val rfl
   ·go_simp
    with_reducible rfl
   simp only [qZ]
   repeat ((fail_if_success refine sqx ?_); go_step)
   refine wl_load (i := 2) hE0 rfl rfl rfl rfl Tryz.underlying98 rfl (sz_of (n := 4) (by kernel_rfl) (by first | (simp only [ints_size, digs_length, List.length_replicate, List.length_cons, List.length_nil]; done) | (simp only [ints_size, *]; done) | rfl)) ?_
   simp only [qZ]
   apply wl_val rfl
   ·go_simp
    with_reducible rfl
   simp only [qZ]
   repeat ((fail_if_success refine sqx ?_); go_step)
   go_loopw [8, 20] (fun ov k wr => ∃ (K V : Nat) (Y : List Nat), K ≤ 4 ∧ k = .int .i64 K ∧ ov = .int .u64 V ∧ TInv I (N % 18446744073709551616 ^ I * O) a O K V Y ∧ Env w [⟨g3, 96, ints .u64 Y⟩, ⟨g2, 96, ints .u64 (List.replicate 8 0)⟩, ⟨g1, 98, ints .u64 (digs 18446744073709551616 4 O)⟩, ⟨g0, 98, ints .u64 (digs 18446744073709551616 4 N)⟩] wr) (fun _ k _ => 4 - (intOf k).toNat)
   case atStart => exact ⟨0, 0, X, by decide, rfl, rfl, HX.out.enter a, hE0⟩
   case round =>
    clear hE0
    obtain ⟨K, V, Y, hK, rfl, rfl, hT, hE0⟩ := hrel
    by_cases hK4 : K < 4
    ·have HT := Lib.hid hT
     have hYl := hT.len
     have hV := hT.small
     have hYd := hT.digs
     have ha : a < 18446744073709551616 := Ha.out ▸ Nat.mod_lt _ (by decide)
     obtain ⟨b, hb⟩ : ∃ b, b = O / 18446744073709551616 ^ K % 18446744073709551616 := ⟨_, rfl⟩
     have Hk := fun w => index_num O K hK4 w
     rw [← hb] at Hk
     have hbl : b < 18446744073709551616 := hb ▸ Nat.mod_lt _ (by decide)
     obtain ⟨hIK, hIK8⟩ := four_lt' hI4 hK4
     have hX : I + K < Y.length := by rw [hYl]; exact hIK8
     obtain ⟨x, hx⟩ : ∃ x, x = Y.getD (I + K) 0 := ⟨_, rfl⟩
     have hxl : x < 18446744073709551616 := hx ▸ hYd.getD (by decide) _
     have hstep := hT.step hI4 hK4 ha hb hx
     obtain ⟨t1, t2, -⟩ := two_words (V := V) ha hbl hxl hV
     have hlo := mulLo_lt a b
     obtain ⟨hi, hhi⟩ : ∃ h, h = mulHi a b := ⟨_, rfl⟩
     obtain ⟨lo, hlo'⟩ : ∃ h, h = mulLo a b := ⟨_, rfl⟩
     have hMul : ∀ w, _ := Mul64_any a b ha hbl
     rw [← hhi, ← hlo'] at hMul
     rw [← hhi, ← hlo'] at hstep t1 t2
     have s1 := add_zero_ lo x
     have s2 := add_zero_ (sumW lo x 0) V
     obtain ⟨l2, hl2⟩ : ∃ h, h = sumW lo x 0 := ⟨_, rfl⟩
     obtain ⟨c2, hc2⟩ : ∃ h, h = carW lo x 0 := ⟨_, rfl⟩
     rw [← hl2] at s1 s2 hstep t2
     rw [← hc2] at s1 hstep t1 t2
     obtain ⟨l3, hl3⟩ : ∃ h, h = sumW l2 V 0 := ⟨_, rfl⟩
     obtain ⟨c3, hc3⟩ : ∃ h, h = carW l2 V 0 := ⟨_, rfl⟩
     rw [← hl3] at s2 hstep
     rw [← hc3] at s2 hstep t2
     have hw1 : IntKind.u64.wrap ((hi : Int) + (c2 : Int)) = ((hi + c2 : Nat) : Int) := by rw [IntKind.wrap_u64]; omega
     have hw2 : IntKind.u64.wrap (((hi + c2 : Nat) : Int) + (c3 : Int)) = ((hi + c2 + c3 : Nat) : Int) := by rw [IntKind.wrap_u64]; omega
     obtain ⟨h2, hh2⟩ : ∃ h, h = hi + c2 := ⟨_, rfl⟩
     rw [← hh2] at hw1 hw2 hstep
     obtain ⟨V2, hV2⟩ : ∃ h, h = h2 + c3 := ⟨_, rfl⟩
     rw [← hV2] at hw2 hstep
     obtain ⟨p, hp⟩ : ∃ p, p = I + K := ⟨_, rfl⟩
     rw [← hp] at hIK hIK8 hX hx hstep
     have hp0 : (0 : Int) ≤ (p : Int) := by omega
     have hp8 : (p : Int) < 8 := by omega
     have Hx := Lib.hid hx
     have Hs := Lib.hid hstep
     have HM := Lib.hid hMul
     clear hx hxl hstep hMul hT hYl hV hYd hb hbl ha hlo hhi hlo' hl2 hc2 hl3 hc3 hh2 hV2 t1 t2 hK hp
     have hK1 : IntKind.i64.wrap ((K : Int) + 1) = ((K + 1 : Nat) : Int) := by rw [IntKind.wrap_i64]; omega
     repeat ((fail_if_success refine sqx ?_); go_step)
     apply wl_val rfl
     ·go_simp
      with_reducible rfl
     simp only [qZ]
     repeat ((fail_if_success refine sqx ?_); go_step)
     apply wl_val rfl
     ·go_simp
      with_reducible rfl
     simp only [qZ]
     apply wl_val rfl
     ·go_simp
      with_reducible rfl
     simp only [qZ]
     apply wl_val rfl
     ·go_simp
      with_reducible rfl
     simp only [qZ]
     apply wl_val rfl
     ·go_simp
      with_reducible rfl
     simp only [qZ]
     repeat ((fail_if_success refine sqx ?_); go_step)
     apply wl_val rfl
     ·go_simp
      with_reducible rfl
     simp only [qZ]
     apply wl_val rfl
     ·go_simp
      with_reducible rfl
     simp only [qZ]
     refine wl_call hE0 rfl (by go_simp) ((HM.out _).mono (fun _ _ h => ⟨h.1, h.2 ▸ Below.refl _ _⟩)) ?_
     intro w1 hE1
     clear hE0
     simp only [qZ]
     apply wl_val rfl
     ·go_simp
      with_reducible rfl
     simp only [qZ]
     apply wl_val rfl
     ·go_simp
      with_reducible rfl
     simp only [qZ]
     apply wl_val rfl
     ·go_simp
      with_reducible rfl
     simp only [qZ]
     apply wl_val rfl
     ·go_simp
      with_reducible rfl
     simp only [qZ]
     apply wl_val rfl
     ·go_simp
      with_reducible rfl
     simp only [qZ]
     repeat ((fail_if_success refine sqx ?_); go_step)
     apply wl_val rfl
     ·go_simp
      with_reducible rfl
     simp only [qZ]
     apply wl_val rfl
     ·go_simp
      with_reducible rfl
     simp only [qZ]
     apply wl_val rfl
     ·go_simp
      with_reducible rfl
     simp only [qZ]
     apply wl_val rfl
     ·go_simp
      with_reducible rfl
     simp only [qZ]
     apply wl_val rfl
     ·go_simp
      with_reducible rfl
     simp only [qZ]
     apply wl_val rfl
     ·have ca := hE1.cell (i := 0) rfl p
      rw [ints_get? _ _ _ hX, ← Hx.out] at ca
      go_simp
      with_reducible rfl
     simp only [qZ]
     apply wl_val rfl
     ·go_simp
      with_reducible rfl
     simp only [qZ]
     apply wl_val rfl
     ·go_simp
      with_reducible rfl
     simp only [qZ]
     apply wl_val rfl
     ·go_simp
      with_reducible rfl
     simp only [qZ]
     apply wl_val rfl
     ·go_simp
      with_reducible rfl
     simp only [qZ]
     apply wl_val rfl
     ·go_simp
      with_reducible rfl
     simp only [qZ]
     apply wl_val rfl
     ·go_simp
      with_reducible rfl
     simp only [qZ]
     repeat ((fail_if_success refine sqx ?_); go_step)
     apply wl_val rfl
     ·go_simp
      with_reducible rfl
     simp only [qZ]
     apply wl_val rfl
     ·go_simp
      with_reducible rfl
     simp only [qZ]
     apply wl_val rfl
     ·go_simp
      with_reducible rfl
     simp only [qZ]
     apply wl_val rfl
     ·go_simp
      with_reducible rfl
     simp only [qZ]
     repeat ((fail_if_success refine sqx ?_); go_step)
     apply wl_val rfl
     ·go_simp
      with_reducible rfl
     simp only [qZ]
     apply wl_val rfl
     ·go_simp
      with_reducible rfl
     simp only [qZ]
     apply wl_val rfl
     ·go_simp
      with_reducible rfl
     simp only [qZ]
     apply wl_val rfl
     ·go_simp
      with_reducible rfl
     simp only [qZ]
     apply wl_val rfl
     ·go_simp
      with_reducible rfl
     simp only [qZ]
     apply wl_val rfl
     ·go_simp
      with_reducible rfl
     simp only [qZ]
     apply wl_val rfl
     ·go_simp
      with_reducible rfl
     simp only [qZ]
     apply wl_val rfl
     ·go_simp
      with_reducible rfl
     simp only [qZ]
     repeat ((fail_if_success refine sqx ?_); go_step)
     apply wl_val rfl
     ·go_simp
      with_reducible rfl
     simp only [qZ]
     apply wl_val rfl
     ·go_simp
      with_reducible rfl
     simp only [qZ]
     apply wl_val rfl
     ·go_simp
      with_reducible rfl
     simp only [qZ]
     apply wl_val rfl
     ·go_simp
      with_reducible rfl
     simp only [qZ]
     apply wl_val rfl
     ·go_simp
      with_reducible rfl
     simp only [qZ]
     apply wl_val rfl
     ·go_simp
      with_reducible rfl
     simp only [qZ]
     apply wl_val rfl
     ·go_simp
      with_reducible rfl
     simp only [qZ]
     apply wl_val rfl
     ·go_simp
      with_reducible rfl
     simp only [qZ]
     refine wl_cell (i := 0) (j := p) (v := .int .u64 (l3 : Nat)) hE1 rfl rfl (by (have ca := hE1.cell (i := 0) rfl p; rw [ints_get? _ _ _ hX, ← Hx.out] at ca; have cf := hE1.frozen (i := 0) rfl p; go_simp; try with_reducible rfl)) ?_
     intro w2 hE2
     clear hE1
     simp only [qpB, qpC] at hE2
     rw [ints_set] at hE2
     simp only [qZ]
     apply wl_val rfl
     ·go_simp
      with_reducible rfl
     simp only [qZ]
     repeat ((fail_if_success refine sqx ?_); go_step)
     apply wl_val rfl
     ·go_simp
      with_reducible rfl
     simp only [qZ]
     apply wl_val rfl
     ·go_simp
      with_reducible rfl
     simp only [qZ]
     go_wp2
     go_roundw
     case rel => exact ⟨K + 1, V2, _, by omega, by go_num, rfl, Hs.out, hE2⟩
     case measure => simp [intOf]; omega
    ·have hK' : K = 4 := by omega
     subst hK'
     have hleave := hT.leave hI4 HO.out Ha.out
     have hIp : IntKind.i64.wrap ((I : Int) + 4) = ((I + 4 : Nat) : Int) := by rw [IntKind.wrap_i64]; omega
     have hIp8 : I + 4 < 8 := by omega
     have hX : I + 4 < Y.length := by rw [hT.len]; exact hIp8
     obtain ⟨p, hp⟩ : ∃ p, p = I + 4 := ⟨_, rfl⟩
     rw [← hp] at hIp hIp8 hX hleave
     have hp0 : (0 : Int) ≤ (p : Int) := by omega
     have hp8 : (p : Int) < 8 := by omega
     have HL := Lib.hid hleave
     clear hleave hT hp
     have hI1 : IntKind.i64.wrap ((I : Int) + 1) = ((I + 1 : Nat) : Int) := by rw [IntKind.wrap_i64]; omega
     repeat ((fail_if_success refine sqx ?_); go_step)
     apply wl_val rfl
     ·go_simp
      with_reducible rfl
     simp only [qZ]
     repeat ((fail_if_success refine sqx ?_); go_step)
     apply wl_val rfl
     ·go_simp
      with_reducible rfl
     simp only [qZ]
     apply wl_val rfl
     ·go_simp
      with_reducible rfl
     simp only [qZ]
     apply wl_val rfl
     ·go_simp
      with_reducible rfl
     simp only [qZ]
     apply wl_val rfl
     ·go_simp
      with_reducible rfl
     simp only [qZ]
     refine wl_cell (i := 0) (j := p) (v := .int .u64 (V : Nat)) hE0 rfl rfl (by (have ca := hE0.cell (i := 0) rfl p; rw [ints_get? _ _ _ hX] at ca; have cf := hE0.frozen (i := 0) rfl p; go_simp; try with_reducible rfl)) ?_
     intro w1 hE1
     clear hE0
     simp only [qpB, qpC] at hE1
     rw [ints_set] at hE1
     simp only [qZ]
     repeat ((fail_if_success refine sqx ?_); go_step)
     apply wl_val rfl
     ·go_simp
      with_reducible rfl
     simp only [qZ]
     apply wl_val rfl
     ·go_simp
      with_reducible rfl
     simp only [qZ]
     go_wp2
     go_roundw
     case rel => exact ⟨I + 1, _, by omega, by go_num, HL.out, hE1⟩
     case measure => simp [intOf]; omega
  ·have hI' : I = 4 := by omega
   subst hI'
   have hX := hO.final HN.out
   subst hX
   clear hI4 hO hI
   repeat ((fail_if_success refine sqx ?_); go_step)
   apply wl_val rfl
   ·go_simp
    with_reducible rfl
   simp only [qZ]
   repeat ((fail_if_success refine sqx ?_); go_step)
   refine wl_load (i := 0) hE0 rfl rfl rfl rfl Tryz.underlying96 rfl (sz_of (n := 8) (by kernel_rfl) (by first | (simp only [ints_size, digs_length, List.length_replicate, List.length_cons, List.length_nil]; done) | (simp only [ints_size, *]; done) | rfl)) ?_
   simp only [qZ]
   refine wl_store (i := 1) hE0 rfl rfl rfl rfl rfl (sz_of (n := 8) (by kernel_rfl) (by first | (simp only [ints_size, digs_length, List.length_replicate, List.length_cons, List.length_nil]; done) | (simp only [ints_size, *]; done) | rfl)) (by first | (simp only [ints_size, digs_length, List.length_replicate, List.length_cons, List.length_nil]; done) | (simp only [ints_size, *]; done) | rfl) (by first | exact ints_one _ _ | decide | simp [*]) ?_
   intro w1 hE1
   clear hE0
   simp only [qpB, qpC] at hE1
   simp only [qZ]
   repeat ((fail_if_success refine sqx ?_); go_step)
   refine bodyPost_ret (results_cell_row rfl _ _ _ _ _ (0, 0) _ rfl (hE1.get (i := 1) rfl) Tryz.underlying96 rfl (sz_of (n := 8) (by kernel_rfl) (by first | (simp only [ints_size, digs_length, List.length_replicate, List.length_cons, List.length_nil]; done) | (simp only [ints_size, *]; done) | rfl))) rfl ⟨rfl, hE1.below⟩
end Go.Proofs.YthddoelflmoedaaGreat
namespace Go.Proofs.YthddoelflmoedaaGreat
open Go.RowKit
set_option maxRecDepth 100000

theorem mod_q (n : Nat) : n % q < q := Nat.mod_lt _ (by decide)
theorem mod_q_lt (n : Nat) : n % q < big256 := Nat.lt_trans (mod_q n) (by decide)
theorem val_lt32 {a : List Nat} (ha : a.length = 32) (da : Digs 256 a) : val 256 a < 18446744073709551616 ^ 4 := by
 have := val_lt da
 rw [ha] at this
 exact this
theorem val_lt64 {a : List Nat} (ha : a.length = 64) (da : Digs 256 a) : val 256 a < 18446744073709551616 ^ 8 := by
 have := val_lt da
 rw [ha] at this
 exact this
theorem mul_q_lt (m n : Nat) : m % q * (n % q) < 18446744073709551616 ^ 8 :=
 Nat.lt_of_le_of_lt (Nat.mul_le_mul (Nat.le_of_lt (mod_q m)) (Nat.le_of_lt (mod_q n))) (by decide)
theorem muladd_end (a b c : Nat) : (a % q * (b % q) % q + c % q) % q = (a * b + c) % q := by
 rw [← Nat.mul_mod, ← Nat.add_mod]
theorem rest4_of (g V : Nat) (T : TypeId) (hV : V < 18446744073709551616 ^ 4) (w : World) (hg : w.heap[g]? = some (.cells (ints .u64 (digs 18446744073709551616 4 V)) T (0, 0))) :
  Gives 65 #[.slice (some ⟨g, 0, none⟩) 4 4] w (num (V % q)) := by
 have h := rest4_any g _ T (digs_length _ _ _) (digs_Digs (by decide) 4 V) w hg
 rwa [val_digs, Nat.mod_eq_of_lt hV] at h
theorem rest8_of (g V : Nat) (T : TypeId) (hV : V < 18446744073709551616 ^ 8) (w : World) (hg : w.heap[g]? = some (.cells (ints .u64 (digs 18446744073709551616 8 V)) T (0, 0))) :
  Gives 65 #[.slice (some ⟨g, 0, none⟩) 8 8] w (num (V % q)) := by
 have h := rest8_any g _ T (digs_length _ _ _) (digs_Digs (by decide) 8 V) w hg
 rwa [val_digs, Nat.mod_eq_of_lt hV] at h
set_option maxHeartbeats 1000000 in
theorem small_any (a : List Nat) (ha : a.length = 32) (da : Digs 256 a) (w : World) : Gives 63 #[.agg (ints .u8 a)] w (num (val 256 a % q)) := by
 have hE0 := Env.nil w
 go_enter Tryz.func63, Tryz.ntmps63
 repeat ((fail_if_success refine sqx ?_); go_step)
 refine wl_box (cs := (ints .u8 a)) hE0 rfl rfl rfl ?_
 intro g0 w1 hE1
 clear hE0
 simp only [qZ]
 refine wl_alloc hE1 rfl rfl al_num ?_
 intro g1 w2 hE2
 clear hE1
 simp only [qZ]
 repeat ((fail_if_success refine sqx ?_); go_step)
 apply wl_val rfl
 ·go_simp
  with_reducible rfl
 simp only [qZ]
 refine wl_call_new hE2 rfl (by go_simp) (load4_any _ a _ ha da _ (hE2.get (i := 1) rfl)) ?_
 intro g2 w3 hE3
 clear hE2
 simp only [qZ]
 refine wl_call hE3 rfl (by go_simp) (rest4_of _ _ _ (val_lt32 ha da) _ (hE3.get (i := 0) rfl)) ?_
 intro w4 hE4
 clear hE3
 simp only [qZ]
 refine wl_store (i := 1) hE4 rfl rfl rfl rfl rfl (sz_of (n := 4) (by kernel_rfl) (by first | (simp only [ints_size, digs_length, List.length_replicate, List.length_cons, List.length_nil]; done) | (simp only [ints_size, *]; done) | rfl)) (by first | (simp only [ints_size, digs_length, List.length_replicate, List.length_cons, List.length_nil]; done) | (simp only [ints_size, *]; done) | rfl) (by first | exact ints_one _ _ | decide | simp [*]) ?_
 intro w5 hE5
 clear hE4
 simp only [qpB, qpC] at hE5
 simp only [qZ]
 repeat ((fail_if_success refine sqx ?_); go_step)
 refine bodyPost_ret (results_cell_row rfl _ _ _ _ _ (0, 0) _ rfl (hE5.get (i := 1) rfl) Tryz.underlying98 rfl (sz_of (n := 4) (by kernel_rfl) (by first | (simp only [ints_size, digs_length, List.length_replicate, List.length_cons, List.length_nil]; done) | (simp only [ints_size, *]; done) | rfl))) rfl ⟨rfl, hE5.below⟩


set_option maxHeartbeats 1000000 in
theorem Reduce_any (a : List Nat) (ha : a.length = 64) (da : Digs 256 a) (w : World) : Gives 62 #[.agg (ints .u8 a)] w (.agg (ints .u8 (digs 256 32 (val 256 a % q)))) := by
 have hE0 := Env.nil w
 go_enter Tryz.func62, Tryz.ntmps62
 repeat ((fail_if_success refine sqx ?_); go_step)
 refine wl_box (cs := (ints .u8 a)) hE0 rfl rfl rfl ?_
 intro g0 w1 hE1
 clear hE0
 simp only [qZ]
 refine wl_alloc hE1 rfl rfl al_b32 ?_
 intro g1 w2 hE2
 clear hE1
 simp only [qZ]
 repeat ((fail_if_success refine sqx ?_); go_step)
 apply wl_val rfl
 ·go_simp
  with_reducible rfl
 simp only [qZ]
 refine wl_call_new hE2 rfl (by go_simp) (load8_any _ a _ ha da _ (hE2.get (i := 1) rfl)) ?_
 intro g2 w3 hE3
 clear hE2
 simp only [qZ]
 refine wl_call hE3 rfl (by go_simp) (rest8_of _ _ _ (val_lt64 ha da) _ (hE3.get (i := 0) rfl)) ?_
 intro w4 hE4
 clear hE3
 simp only [qZ]
 refine wl_call hE4 rfl (by go_simp) (bytes_any (val 256 a % q) (mod_q_lt _) _) ?_
 intro w5 hE5
 clear hE4
 simp only [qZ]
 refine wl_store (i := 1) hE5 rfl rfl rfl rfl rfl (sz_of (n := 32) (by kernel_rfl) (by first | (simp only [ints_size, digs_length, List.length_replicate, List.length_cons, List.length_nil]; done) | (simp only [ints_size, *]; done) | rfl)) (by first | (simp only [ints_size, digs_length, List.length_replicate, List.length_cons, List.length_nil]; done) | (simp only [ints_size, *]; done) | rfl) (by first | exact ints_one _ _ | decide | simp [*]) ?_
 intro w6 hE6
 clear hE5
 simp only [qpB, qpC] at hE6
 simp only [qZ]
 repeat ((fail_if_success refine sqx ?_); go_step)
 refine bodyPost_ret (results_cell_row rfl _ _ _ _ _ (0, 0) _ rfl (hE6.get (i := 1) rfl) Tryz.underlying22 rfl (sz_of (n := 32) (by kernel_rfl) (by first | (simp only [ints_size, digs_length, List.length_replicate, List.length_cons, List.length_nil]; done) | (simp only [ints_size, *]; done) | rfl))) rfl ⟨rfl, hE6.below⟩


set_option maxHeartbeats 1000000 in
theorem MulAdd_any (a b c : List Nat) (ha : a.length = 32) (hb : b.length = 32) (hc : c.length = 32) (da : Digs 256 a) (db : Digs 256 b) (dc : Digs 256 c) (w : World) : Gives 25 #[.agg (ints .u8 a), .agg (ints .u8 b), .agg (ints .u8 c)] w (.agg (ints .u8 (digs 256 32 ((val 256 a * val 256 b + val 256 c) % q)))) := by
 have hE0 := Env.nil w
 go_enter Tryz.func25, Tryz.ntmps25
 repeat ((fail_if_success refine sqx ?_); go_step)
 refine wl_box (cs := (ints .u8 a)) hE0 rfl rfl rfl ?_
 intro g0 w1 hE1
 clear hE0
 simp only [qZ]
 refine wl_box (cs := (ints .u8 b)) hE1 rfl rfl rfl ?_
 intro g1 w2 hE2
 clear hE1
 simp only [qZ]
 refine wl_box (cs := (ints .u8 c)) hE2 rfl rfl rfl ?_
 intro g2 w3 hE3
 clear hE2
 simp only [qZ]
 refine wl_alloc hE3 rfl rfl al_b32 ?_
 intro g3 w4 hE4
 clear hE3
 simp only [qZ]
 repeat ((fail_if_success refine sqx ?_); go_step)
 refine wp_region_env 6 (by kernel_rfl) (by kernel_rfl) (fun _ _ d _ _ h => by cases d <;> exact h) hE4 ?_
 refine headRun_load rfl rfl (fun w h => h.get (i := 3) rfl) Tryz.underlying22 rfl (sz_of (n := 32) (by kernel_rfl) (by first | (simp only [ints_size, digs_length, List.length_replicate, List.length_cons, List.length_nil]; done) | (simp only [ints_size, *]; done) | rfl)) ?_
 simp only [qZ]
 refine headRun_call (fun w1 => by go_simp) (fun w1 hW => small_any a ha da _) ?_
 simp only [qZ]
 refine headRun_load rfl rfl (fun w h => h.get (i := 2) rfl) Tryz.underlying22 rfl (sz_of (n := 32) (by kernel_rfl) (by first | (simp only [ints_size, digs_length, List.length_replicate, List.length_cons, List.length_nil]; done) | (simp only [ints_size, *]; done) | rfl)) ?_
 simp only [qZ]
 refine headRun_call (fun w1 => by go_simp) (fun w1 hW => small_any b hb db _) ?_
 simp only [qZ]
 refine headRun_call (fun w1 => by go_simp) (fun w1 hW => times_any (val 256 a % q) (val 256 b % q) (mod_q_lt _) (mod_q_lt _) _) ?_
 simp only [qZ]
 refine headRun_alloc rfl rfl al_twice ?_
 refine headRun_nil (endK1 ?_)
 intro g4 w5 hE5
 clear hE4
 simp only [List.drop_succ_cons, List.drop_zero, Act.put, qpA, qpB, qpC]
 refine wl_store (i := 0) hE5 rfl rfl rfl rfl rfl (sz_of (n := 8) (by kernel_rfl) (by first | (simp only [ints_size, digs_length, List.length_replicate, List.length_cons, List.length_nil]; done) | (simp only [ints_size, *]; done) | rfl)) (by first | (simp only [ints_size, digs_length, List.length_replicate, List.length_cons, List.length_nil]; done) | (simp only [ints_size, *]; done) | rfl) (by first | exact ints_one _ _ | decide | simp [*]) ?_
 intro w6 hE6
 clear hE5
 simp only [qpB, qpC] at hE6
 simp only [qZ]
 repeat ((fail_if_success refine sqx ?_); go_step)
 refine wp_region_env 6 (by kernel_rfl) (by kernel_rfl) (fun _ _ d _ _ h => by cases d <;> exact h) hE6 ?_
 apply headRun_val
 ·intro w1 h1
  go_simp
  with_reducible rfl
 simp only [qZ]
 refine headRun_call (fun w1 => by go_simp) (fun w1 hW => rest8_of _ _ _ (mul_q_lt _ _) _ (hW.get (i := 0) rfl)) ?_
 simp only [qZ]
 refine headRun_load rfl rfl (fun w h => h.get (i := 2) rfl) Tryz.underlying22 rfl (sz_of (n := 32) (by kernel_rfl) (by first | (simp only [ints_size, digs_length, List.length_replicate, List.length_cons, List.length_nil]; done) | (simp only [ints_size, *]; done) | rfl)) ?_
 simp only [qZ]
 refine headRun_call (fun w1 => by go_simp) (fun w1 hW => small_any c hc dc _) ?_
 simp only [qZ]
 refine headRun_call (fun w1 => by go_simp) (fun w1 hW => qplus_any (val 256 a % q * (val 256 b % q) % q) (val 256 c % q) (mod_q _) (mod_q _) _) ?_
 simp only [qZ]
 refine headRun_call (fun w1 => by go_simp) (fun w1 hW => bytes_any ((val 256 a % q * (val 256 b % q) % q + val 256 c % q) % q) (mod_q_lt _) _) ?_
 simp only [qZ]
 refine headRun_nil (endK0 ?_)
 intro  w7 hE7
 clear hE6
 simp only [List.drop_succ_cons, List.drop_zero, Act.put, qpA, qpB, qpC]
 refine wl_store (i := 1) hE7 rfl rfl rfl rfl rfl (sz_of (n := 32) (by kernel_rfl) (by first | (simp only [ints_size, digs_length, List.length_replicate, List.length_cons, List.length_nil]; done) | (simp only [ints_size, *]; done) | rfl)) (by first | (simp only [ints_size, digs_length, List.length_replicate, List.length_cons, List.length_nil]; done) | (simp only [ints_size, *]; done) | rfl) (by first | exact ints_one _ _ | decide | simp [*]) ?_
 intro w8 hE8
 clear hE7
 simp only [qpB, qpC] at hE8
 simp only [qZ]
 repeat ((fail_if_success refine sqx ?_); go_step)
 refine bodyPost_ret (results_cell_row rfl _ _ _ _ _ (0, 0) _ rfl (hE8.get (i := 1) rfl) Tryz.underlying22 rfl (sz_of (n := 32) (by kernel_rfl) (by first | (simp only [ints_size, digs_length, List.length_replicate, List.length_cons, List.length_nil]; done) | (simp only [ints_size, *]; done) | rfl))) rfl ⟨by rw [muladd_end], hE8.below⟩


end Go.Proofs.YthddoelflmoedaaGreat
namespace Go.Proofs.YthddoelflmoedaaGreat
set_option maxRecDepth 100000

def rr (w n x : Nat) : Nat := x * 2 ^ (w - n) % 2 ^ w ||| x / 2 ^ n
theorem rr_lt {w n x : Nat} (hx : x < 2 ^ w) : rr w n x < 2 ^ w := Nat.or_lt_two_pow (Nat.mod_lt _ (Nat.pow_pos (by decide))) (Nat.lt_of_le_of_lt (Nat.div_le_self _ _) hx)
structure Kd where
 w : Nat
 first : List Nat
 rounds : List Nat
 s0 : Nat × Nat × Nat
 s1 : Nat × Nat × Nat
 t0 : Nat × Nat × Nat
 t1 : Nat × Nat × Nat
def bigS (w : Nat) (t : Nat × Nat × Nat) (x : Nat) : Nat := rr w t.1 x ^^^ rr w t.2.1 x ^^^ rr w t.2.2 x
def smallS (w : Nat) (t : Nat × Nat × Nat) (x : Nat) : Nat := rr w t.1 x ^^^ rr w t.2.1 x ^^^ x / 2 ^ t.2.2
def chS (w e f g : Nat) : Nat := e &&& f ^^^ (2 ^ w - 1 - e) &&& g
def majS (a b c : Nat) : Nat := a &&& b ^^^ a &&& c ^^^ b &&& c
def beN (l : List Nat) : Nat := val 256 l.reverse
def wordAt (w : Nat) (m : List Nat) (i : Nat) : Nat := beN ((m.drop (i * (w / 8))).take (w / 8))
def nextW (k : Kd) (m : List Nat) (l : List Nat) : Nat :=
 if l.length < 16 then wordAt k.w m l.length
 else (smallS k.w k.t1 (l.getD (l.length - 2) 0) + l.getD (l.length - 7) 0 + smallS k.w k.t0 (l.getD (l.length - 15) 0) + l.getD (l.length - 16) 0) % 2 ^ k.w
def sched (k : Kd) (m : List Nat) : Nat → List Nat
 | 0 => []
 | n + 1 => sched k m n ++ [nextW k m (sched k m n)]
theorem sched_len (k : Kd) (m : List Nat) : ∀ n, (sched k m n).length = n
 | 0 => rfl
 | n + 1 => by rw [sched, List.length_append, sched_len k m n]; rfl
def roundS (k : Kd) (v : List Nat) (c x : Nat) : List Nat :=
 let t := (v.getD 7 0 + bigS k.w k.s1 (v.getD 4 0) + chS k.w (v.getD 4 0) (v.getD 5 0) (v.getD 6 0) + c + x) % 2 ^ k.w
 let u := (bigS k.w k.s0 (v.getD 0 0) + majS (v.getD 0 0) (v.getD 1 0) (v.getD 2 0)) % 2 ^ k.w
 [(t + u) % 2 ^ k.w, v.getD 0 0, v.getD 1 0, v.getD 2 0, (v.getD 3 0 + t) % 2 ^ k.w, v.getD 4 0, v.getD 5 0, v.getD 6 0]
def roundsS (k : Kd) (h m : List Nat) : Nat → List Nat
 | 0 => h
 | n + 1 => roundS k (roundsS k h m n) (k.rounds.getD n 0) ((sched k m k.rounds.length).getD n 0)
def blockS (k : Kd) (h m : List Nat) : List Nat := (List.range 8).map fun i => (h.getD i 0 + (roundsS k h m k.rounds.length).getD i 0) % 2 ^ k.w
theorem blockS_len (k : Kd) (h m : List Nat) : (blockS k h m).length = 8 := by unfold blockS; simp
end Go.Proofs.YthddoelflmoedaaGreat
namespace Go.Proofs.YthddoelflmoedaaGreat
open Go.RowKit
set_option maxRecDepth 100000
section
variable {P : Program} {a : Act} {w : World} {o : Oper}
theorem v_negN {t : TypeId} {x : Operand} {m : Nat} (ho : o.op = .unOp .neg t x) (hx : a.eval x = .int .i64 (m : Int)) (hm : m < 9223372036854775808) : Val P o a (.int .i64 (-(m : Int))) w := v_run fun w => by
 unfold execOp
 simp only [ho, hx, Op.unary, Op.intArith, Sem.run_bind, Sem.run_pure]
 have h : IntKind.i64.wrap (-(m : Int)) = -(m : Int) := by rw [IntKind.wrap_i64]; omega
 simp [h]
theorem v_convNeg {s d : TypeId} {x : Operand} {m : Nat} {ds : TypeDesc} (ho : o.op = .convert s d x) (hx : a.eval x = .int .i64 (-(m : Int))) (hs : P.underlying s = some ds) (hd : P.underlying d = some (.int .u64)) (h0 : 0 < m) (hm : m < 9223372036854775808) :
  Val P o a (.int .u64 ((18446744073709551616 - m : Nat) : Int)) w := v_run fun w => by
 unfold execOp
 simp only [ho, hx, convert, Sem.run_bind, run_underlying hs, run_underlying hd, Result.andThen_ok]
 have : IntKind.u64.wrap (-(m : Int)) = ((18446744073709551616 - m : Nat) : Int) := by rw [IntKind.wrap_u64]; omega
 simp [Conv.intToInt, Sem.run_pure, this]
theorem v_compl {t : TypeId} {x : Operand} {k : IntKind} {m : Nat} (ho : o.op = .unOp .xor t x) (hx : a.eval x = .int k (m : Int)) (hk : k.signed = false) (hm : m < 2 ^ k.bits) : Val P o a (.int k ((2 ^ k.bits - 1 - m : Nat) : Int)) w := v_run fun w => by
 have hmax : k.max = ((2 ^ k.bits - 1 : Nat) : Int) := by cases k <;> first | (cases hk; done) | rfl
 have hlt : 2 ^ k.bits - 1 < 2 ^ k.bits := Nat.sub_lt (Nat.pow_pos (by decide)) (by decide)
 have hx' : (2 ^ k.bits - 1) ^^^ m = 2 ^ k.bits - 1 - m := by
  apply Nat.eq_of_testBit_eq
  intro i
  rw [Nat.testBit_xor, Nat.testBit_two_pow_sub_one]
  have e : 2 ^ k.bits - 1 - m = 2 ^ k.bits - (m + 1) := by omega
  rw [e, Nat.testBit_two_pow_sub_succ hm]
  by_cases hi : i < k.bits
  ·simp [hi]
  ·have : m.testBit i = false := Nat.testBit_lt_two_pow (Nat.lt_of_lt_of_le hm (Nat.pow_le_pow_right (by decide) (by omega)))
   simp [hi, this]
 have hw : k.wrap (((2 ^ k.bits - 1) ^^^ m : Nat) : Int) = (((2 ^ k.bits - 1) ^^^ m : Nat) : Int) := w_uns hk (Nat.xor_lt_two_pow hlt hm)
 rw [hx'] at hw
 unfold execOp
 simp only [ho, hx, Op.unary, hk, hmax, Sem.run_bind, Sem.run_pure, Op.intBits, ofInt_nat hm, ofInt_nat hlt, BitVec.toNat_xor, hx', hw, Bool.false_eq_true, if_false]
 rfl
end
end Go.Proofs.YthddoelflmoedaaGreat
