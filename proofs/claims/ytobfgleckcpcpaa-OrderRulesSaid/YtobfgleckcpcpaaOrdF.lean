/-
  Layer 5: the functions that the package tells: what they answer of any bytes.
-/
import Derived.Test.YtobfgleckcpcpaaOrdE
namespace Go.Proofs.Ytobfgleckcpcpaa
open Go.RowKit
set_option linter.unusedVariables false
set_option linter.unusedSimpArgs false

theorem mod_q (n : Nat) : n % q < q := Nat.mod_lt _ (by decide)
theorem mod_q_lt (n : Nat) : n % q < big256 := Nat.lt_trans (mod_q n) (by decide)
theorem val_lt32 {a : List Nat} (ha : a.length = 32) (da : Digs 256 a) : val 256 a < 18446744073709551616 ^ 4 := by
  have := val_lt da
  rw [ha] at this
  exact this
theorem val_lt64 {a : List Nat} (ha : a.length = 64) (da : Digs 256 a) : val 256 a < 18446744073709551616 ^ 8 := by
  have := val_lt da
  rw [ha] at this
  exact this
theorem mul_q_lt (m n : Nat) : m % q * (n % q) < 18446744073709551616 ^ 8 :=
  Nat.lt_of_le_of_lt (Nat.mul_le_mul (Nat.le_of_lt (mod_q m)) (Nat.le_of_lt (mod_q n))) (by decide)
theorem muladd_end (a b c : Nat) : (a % q * (b % q) % q + c % q) % q = (a * b + c) % q := by
  rw [← Nat.mul_mod, ← Nat.add_mod]
theorem neg_lt (n : Nat) : (q + big256 - n % q) % big256 < 18446744073709551616 ^ 4 := Nat.mod_lt _ (by decide)
theorem neg_end (n : Nat) : (q + big256 - n % q) % big256 % q = (q - n % q) % q := by
  have h := mod_q n
  have hb : q < big256 := by decide
  have : (q + big256 - n % q) % big256 = q - n % q := by
    have e : q + big256 - n % q = (q - n % q) + big256 := by omega
    rw [e, Nat.add_mod_right, Nat.mod_eq_of_lt (by omega)]
  rw [this]
theorem rest4_of (g V : Nat) (T : TypeId) (hV : V < 18446744073709551616 ^ 4) (w : World) (hg : w.heap[g]? = some (.cells (ints .u64 (digs 18446744073709551616 4 V)) T (0, 0))) :
    Gives 19 #[.slice (some ⟨g, 0, none⟩) 4 4] w (num (V % q)) := by
  have h := rest4_any g _ T (digs_length _ _ _) (digs_Digs (by decide) 4 V) w hg
  rwa [val_digs, Nat.mod_eq_of_lt hV] at h
theorem rest8_of (g V : Nat) (T : TypeId) (hV : V < 18446744073709551616 ^ 8) (w : World) (hg : w.heap[g]? = some (.cells (ints .u64 (digs 18446744073709551616 8 V)) T (0, 0))) :
    Gives 19 #[.slice (some ⟨g, 0, none⟩) 8 8] w (num (V % q)) := by
  have h := rest8_any g _ T (digs_length _ _ _) (digs_Digs (by decide) 8 V) w hg
  rwa [val_digs, Nat.mod_eq_of_lt hV] at h
set_option maxHeartbeats 1000000 in
theorem small_any (a : List Nat) (ha : a.length = 32) (da : Digs 256 a) (w : World) : Gives 17 #[.agg (ints .u8 a)] w (num (val 256 a % q)) := by
  have hE0 := Env.nil w
  go_enter Try.func17, Try.ntmps17
  repeat ((fail_if_success (with_reducible show wpList _ _ _ (List.cons _ _) _ _)); (fail_if_success (with_reducible show Code.wp _ (Code.region _ _ true) _ _ _)); go_step)
  refine wl_box (cs := (ints .u8 a)) hE0 rfl rfl rfl ?_
  intro g0 w1 hE1
  clear hE0
  simp only [Act.put, List.setIfInBounds_toArray, List.set_cons_zero, List.set_cons_succ]
  refine wl_alloc hE1 rfl rfl al_num ?_
  intro g1 w2 hE2
  clear hE1
  simp only [Act.put, List.setIfInBounds_toArray, List.set_cons_zero, List.set_cons_succ]
  repeat ((fail_if_success (with_reducible show wpList _ _ _ (List.cons _ _) _ _)); (fail_if_success (with_reducible show Code.wp _ (Code.region _ _ true) _ _ _)); go_step)
  apply wl_val rfl
  · go_simp
    with_reducible rfl
  simp only [Act.put, List.setIfInBounds_toArray, List.set_cons_zero, List.set_cons_succ]
  refine wl_call_new hE2 rfl (by go_simp) (load4_any _ a _ ha da _ (hE2.get (i := 1) rfl)) ?_
  intro g2 w3 hE3
  clear hE2
  simp only [Act.put, List.setIfInBounds_toArray, List.set_cons_zero, List.set_cons_succ]
  refine wl_call hE3 rfl (by go_simp) (rest4_of _ _ _ (val_lt32 ha da) _ (hE3.get (i := 0) rfl)) ?_
  intro w4 hE4
  clear hE3
  simp only [Act.put, List.setIfInBounds_toArray, List.set_cons_zero, List.set_cons_succ]
  refine wl_store (i := 1) hE4 rfl rfl rfl rfl rfl (sz_of (n := 4) (by kernel_rfl) (by first | (simp only [ints_size, digs_length, List.length_replicate, List.length_cons, List.length_nil]; done) | (simp only [ints_size, *]; done) | rfl)) (by first | (simp only [ints_size, digs_length, List.length_replicate, List.length_cons, List.length_nil]; done) | (simp only [ints_size, *]; done) | rfl) (by first | exact ints_one _ _ | decide | simp [*]) ?_
  intro w5 hE5
  clear hE4
  simp only [List.set_cons_zero, List.set_cons_succ] at hE5
  simp only [Act.put, List.setIfInBounds_toArray, List.set_cons_zero, List.set_cons_succ]
  repeat ((fail_if_success (with_reducible show wpList _ _ _ (List.cons _ _) _ _)); (fail_if_success (with_reducible show Code.wp _ (Code.region _ _ true) _ _ _)); go_step)
  refine bodyPost_ret (results_cell_row rfl _ _ _ _ _ (0, 0) _ rfl (hE5.get (i := 1) rfl) Try.underlying37 rfl (sz_of (n := 4) (by kernel_rfl) (by first | (simp only [ints_size, digs_length, List.length_replicate, List.length_cons, List.length_nil]; done) | (simp only [ints_size, *]; done) | rfl))) rfl ⟨rfl, hE5.below⟩


set_option maxHeartbeats 1000000 in
theorem Reduce_any (a : List Nat) (ha : a.length = 64) (da : Digs 256 a) (w : World) : Gives 11 #[.agg (ints .u8 a)] w (.agg (ints .u8 (digs 256 32 (val 256 a % q)))) := by
  have hE0 := Env.nil w
  go_enter Try.func11, Try.ntmps11
  repeat ((fail_if_success (with_reducible show wpList _ _ _ (List.cons _ _) _ _)); (fail_if_success (with_reducible show Code.wp _ (Code.region _ _ true) _ _ _)); go_step)
  refine wl_box (cs := (ints .u8 a)) hE0 rfl rfl rfl ?_
  intro g0 w1 hE1
  clear hE0
  simp only [Act.put, List.setIfInBounds_toArray, List.set_cons_zero, List.set_cons_succ]
  refine wl_alloc hE1 rfl rfl al_b32 ?_
  intro g1 w2 hE2
  clear hE1
  simp only [Act.put, List.setIfInBounds_toArray, List.set_cons_zero, List.set_cons_succ]
  repeat ((fail_if_success (with_reducible show wpList _ _ _ (List.cons _ _) _ _)); (fail_if_success (with_reducible show Code.wp _ (Code.region _ _ true) _ _ _)); go_step)
  apply wl_val rfl
  · go_simp
    with_reducible rfl
  simp only [Act.put, List.setIfInBounds_toArray, List.set_cons_zero, List.set_cons_succ]
  refine wl_call_new hE2 rfl (by go_simp) (load8_any _ a _ ha da _ (hE2.get (i := 1) rfl)) ?_
  intro g2 w3 hE3
  clear hE2
  simp only [Act.put, List.setIfInBounds_toArray, List.set_cons_zero, List.set_cons_succ]
  refine wl_call hE3 rfl (by go_simp) (rest8_of _ _ _ (val_lt64 ha da) _ (hE3.get (i := 0) rfl)) ?_
  intro w4 hE4
  clear hE3
  simp only [Act.put, List.setIfInBounds_toArray, List.set_cons_zero, List.set_cons_succ]
  refine wl_call hE4 rfl (by go_simp) (bytes_any (val 256 a % q) (mod_q_lt _) _) ?_
  intro w5 hE5
  clear hE4
  simp only [Act.put, List.setIfInBounds_toArray, List.set_cons_zero, List.set_cons_succ]
  refine wl_store (i := 1) hE5 rfl rfl rfl rfl rfl (sz_of (n := 32) (by kernel_rfl) (by first | (simp only [ints_size, digs_length, List.length_replicate, List.length_cons, List.length_nil]; done) | (simp only [ints_size, *]; done) | rfl)) (by first | (simp only [ints_size, digs_length, List.length_replicate, List.length_cons, List.length_nil]; done) | (simp only [ints_size, *]; done) | rfl) (by first | exact ints_one _ _ | decide | simp [*]) ?_
  intro w6 hE6
  clear hE5
  simp only [List.set_cons_zero, List.set_cons_succ] at hE6
  simp only [Act.put, List.setIfInBounds_toArray, List.set_cons_zero, List.set_cons_succ]
  repeat ((fail_if_success (with_reducible show wpList _ _ _ (List.cons _ _) _ _)); (fail_if_success (with_reducible show Code.wp _ (Code.region _ _ true) _ _ _)); go_step)
  refine bodyPost_ret (results_cell_row rfl _ _ _ _ _ (0, 0) _ rfl (hE6.get (i := 1) rfl) Try.underlying22 rfl (sz_of (n := 32) (by kernel_rfl) (by first | (simp only [ints_size, digs_length, List.length_replicate, List.length_cons, List.length_nil]; done) | (simp only [ints_size, *]; done) | rfl))) rfl ⟨rfl, hE6.below⟩


set_option maxHeartbeats 1000000 in
theorem MulAdd_any (a b c : List Nat) (ha : a.length = 32) (hb : b.length = 32) (hc : c.length = 32) (da : Digs 256 a) (db : Digs 256 b) (dc : Digs 256 c) (w : World) : Gives 8 #[.agg (ints .u8 a), .agg (ints .u8 b), .agg (ints .u8 c)] w (.agg (ints .u8 (digs 256 32 ((val 256 a * val 256 b + val 256 c) % q)))) := by
  have hE0 := Env.nil w
  go_enter Try.func8, Try.ntmps8
  repeat ((fail_if_success (with_reducible show wpList _ _ _ (List.cons _ _) _ _)); (fail_if_success (with_reducible show Code.wp _ (Code.region _ _ true) _ _ _)); go_step)
  refine wl_box (cs := (ints .u8 a)) hE0 rfl rfl rfl ?_
  intro g0 w1 hE1
  clear hE0
  simp only [Act.put, List.setIfInBounds_toArray, List.set_cons_zero, List.set_cons_succ]
  refine wl_box (cs := (ints .u8 b)) hE1 rfl rfl rfl ?_
  intro g1 w2 hE2
  clear hE1
  simp only [Act.put, List.setIfInBounds_toArray, List.set_cons_zero, List.set_cons_succ]
  refine wl_box (cs := (ints .u8 c)) hE2 rfl rfl rfl ?_
  intro g2 w3 hE3
  clear hE2
  simp only [Act.put, List.setIfInBounds_toArray, List.set_cons_zero, List.set_cons_succ]
  refine wl_alloc hE3 rfl rfl al_b32 ?_
  intro g3 w4 hE4
  clear hE3
  simp only [Act.put, List.setIfInBounds_toArray, List.set_cons_zero, List.set_cons_succ]
  repeat ((fail_if_success (with_reducible show wpList _ _ _ (List.cons _ _) _ _)); (fail_if_success (with_reducible show Code.wp _ (Code.region _ _ true) _ _ _)); go_step)
  refine wp_region_env 6 (by kernel_rfl) (by kernel_rfl) (fun _ _ d _ _ h => by cases d <;> exact h) hE4 ?_
  refine headRun_load rfl rfl (fun w h => h.get (i := 3) rfl) Try.underlying22 rfl (sz_of (n := 32) (by kernel_rfl) (by first | (simp only [ints_size, digs_length, List.length_replicate, List.length_cons, List.length_nil]; done) | (simp only [ints_size, *]; done) | rfl)) ?_
  simp only [Act.put, List.setIfInBounds_toArray, List.set_cons_zero, List.set_cons_succ]
  refine headRun_call (fun w1 => by go_simp) (fun w1 hW => small_any a ha da _) ?_
  simp only [Act.put, List.setIfInBounds_toArray, List.set_cons_zero, List.set_cons_succ]
  refine headRun_load rfl rfl (fun w h => h.get (i := 2) rfl) Try.underlying22 rfl (sz_of (n := 32) (by kernel_rfl) (by first | (simp only [ints_size, digs_length, List.length_replicate, List.length_cons, List.length_nil]; done) | (simp only [ints_size, *]; done) | rfl)) ?_
  simp only [Act.put, List.setIfInBounds_toArray, List.set_cons_zero, List.set_cons_succ]
  refine headRun_call (fun w1 => by go_simp) (fun w1 hW => small_any b hb db _) ?_
  simp only [Act.put, List.setIfInBounds_toArray, List.set_cons_zero, List.set_cons_succ]
  refine headRun_call (fun w1 => by go_simp) (fun w1 hW => times_any (val 256 a % q) (val 256 b % q) (mod_q_lt _) (mod_q_lt _) _) ?_
  simp only [Act.put, List.setIfInBounds_toArray, List.set_cons_zero, List.set_cons_succ]
  refine headRun_alloc rfl rfl al_twice ?_
  refine headRun_nil (endK1 ?_)
  intro g4 w5 hE5
  clear hE4
  simp only [List.drop_succ_cons, List.drop_zero, Act.put, List.setIfInBounds_toArray, List.set_cons_zero, List.set_cons_succ]
  refine wl_store (i := 0) hE5 rfl rfl rfl rfl rfl (sz_of (n := 8) (by kernel_rfl) (by first | (simp only [ints_size, digs_length, List.length_replicate, List.length_cons, List.length_nil]; done) | (simp only [ints_size, *]; done) | rfl)) (by first | (simp only [ints_size, digs_length, List.length_replicate, List.length_cons, List.length_nil]; done) | (simp only [ints_size, *]; done) | rfl) (by first | exact ints_one _ _ | decide | simp [*]) ?_
  intro w6 hE6
  clear hE5
  simp only [List.set_cons_zero, List.set_cons_succ] at hE6
  simp only [Act.put, List.setIfInBounds_toArray, List.set_cons_zero, List.set_cons_succ]
  repeat ((fail_if_success (with_reducible show wpList _ _ _ (List.cons _ _) _ _)); (fail_if_success (with_reducible show Code.wp _ (Code.region _ _ true) _ _ _)); go_step)
  refine wp_region_env 6 (by kernel_rfl) (by kernel_rfl) (fun _ _ d _ _ h => by cases d <;> exact h) hE6 ?_
  apply headRun_val
  · intro w1 h1
    go_simp
    with_reducible rfl
  simp only [Act.put, List.setIfInBounds_toArray, List.set_cons_zero, List.set_cons_succ]
  refine headRun_call (fun w1 => by go_simp) (fun w1 hW => rest8_of _ _ _ (mul_q_lt _ _) _ (hW.get (i := 0) rfl)) ?_
  simp only [Act.put, List.setIfInBounds_toArray, List.set_cons_zero, List.set_cons_succ]
  refine headRun_load rfl rfl (fun w h => h.get (i := 2) rfl) Try.underlying22 rfl (sz_of (n := 32) (by kernel_rfl) (by first | (simp only [ints_size, digs_length, List.length_replicate, List.length_cons, List.length_nil]; done) | (simp only [ints_size, *]; done) | rfl)) ?_
  simp only [Act.put, List.setIfInBounds_toArray, List.set_cons_zero, List.set_cons_succ]
  refine headRun_call (fun w1 => by go_simp) (fun w1 hW => small_any c hc dc _) ?_
  simp only [Act.put, List.setIfInBounds_toArray, List.set_cons_zero, List.set_cons_succ]
  refine headRun_call (fun w1 => by go_simp) (fun w1 hW => plus_any (val 256 a % q * (val 256 b % q) % q) (val 256 c % q) (mod_q _) (mod_q _) _) ?_
  simp only [Act.put, List.setIfInBounds_toArray, List.set_cons_zero, List.set_cons_succ]
  refine headRun_call (fun w1 => by go_simp) (fun w1 hW => bytes_any ((val 256 a % q * (val 256 b % q) % q + val 256 c % q) % q) (mod_q_lt _) _) ?_
  simp only [Act.put, List.setIfInBounds_toArray, List.set_cons_zero, List.set_cons_succ]
  refine headRun_nil (endK0 ?_)
  intro  w7 hE7
  clear hE6
  simp only [List.drop_succ_cons, List.drop_zero, Act.put, List.setIfInBounds_toArray, List.set_cons_zero, List.set_cons_succ]
  refine wl_store (i := 1) hE7 rfl rfl rfl rfl rfl (sz_of (n := 32) (by kernel_rfl) (by first | (simp only [ints_size, digs_length, List.length_replicate, List.length_cons, List.length_nil]; done) | (simp only [ints_size, *]; done) | rfl)) (by first | (simp only [ints_size, digs_length, List.length_replicate, List.length_cons, List.length_nil]; done) | (simp only [ints_size, *]; done) | rfl) (by first | exact ints_one _ _ | decide | simp [*]) ?_
  intro w8 hE8
  clear hE7
  simp only [List.set_cons_zero, List.set_cons_succ] at hE8
  simp only [Act.put, List.setIfInBounds_toArray, List.set_cons_zero, List.set_cons_succ]
  repeat ((fail_if_success (with_reducible show wpList _ _ _ (List.cons _ _) _ _)); (fail_if_success (with_reducible show Code.wp _ (Code.region _ _ true) _ _ _)); go_step)
  refine bodyPost_ret (results_cell_row rfl _ _ _ _ _ (0, 0) _ rfl (hE8.get (i := 1) rfl) Try.underlying22 rfl (sz_of (n := 32) (by kernel_rfl) (by first | (simp only [ints_size, digs_length, List.length_replicate, List.length_cons, List.length_nil]; done) | (simp only [ints_size, *]; done) | rfl))) rfl ⟨by rw [muladd_end], hE8.below⟩


set_option maxHeartbeats 1000000 in
theorem Neg_any (a : List Nat) (ha : a.length = 32) (da : Digs 256 a) (w : World) : Gives 15 #[.agg (ints .u8 a)] w (.agg (ints .u8 (digs 256 32 ((q - val 256 a % q) % q)))) := by
  have hE0 := Env.nil w
  go_enter Try.func15, Try.ntmps15
  repeat ((fail_if_success (with_reducible show wpList _ _ _ (List.cons _ _) _ _)); (fail_if_success (with_reducible show Code.wp _ (Code.region _ _ true) _ _ _)); go_step)
  refine wl_box (cs := (ints .u8 a)) hE0 rfl rfl rfl ?_
  intro g0 w1 hE1
  clear hE0
  simp only [Act.put, List.setIfInBounds_toArray, List.set_cons_zero, List.set_cons_succ]
  refine wl_alloc hE1 rfl rfl al_b32 ?_
  intro g1 w2 hE2
  clear hE1
  simp only [Act.put, List.setIfInBounds_toArray, List.set_cons_zero, List.set_cons_succ]
  repeat ((fail_if_success (with_reducible show wpList _ _ _ (List.cons _ _) _ _)); (fail_if_success (with_reducible show Code.wp _ (Code.region _ _ true) _ _ _)); go_step)
  refine wp_region_env 8 (by kernel_rfl) (by kernel_rfl) (fun _ _ d _ _ h => by cases d <;> exact h) hE2 ?_
  refine headRun_call (fun w1 => by go_simp) (fun w1 hW => q_any _) ?_
  simp only [Act.put, List.setIfInBounds_toArray, List.set_cons_zero, List.set_cons_succ]
  refine headRun_load rfl rfl (fun w h => h.get (i := 1) rfl) Try.underlying22 rfl (sz_of (n := 32) (by kernel_rfl) (by first | (simp only [ints_size, digs_length, List.length_replicate, List.length_cons, List.length_nil]; done) | (simp only [ints_size, *]; done) | rfl)) ?_
  simp only [Act.put, List.setIfInBounds_toArray, List.set_cons_zero, List.set_cons_succ]
  refine headRun_call (fun w1 => by go_simp) (fun w1 hW => small_any a ha da _) ?_
  simp only [Act.put, List.setIfInBounds_toArray, List.set_cons_zero, List.set_cons_succ]
  refine headRun_call (fun w1 => by go_simp) (fun w1 hW => minus_any q (val 256 a % q) (by decide) (mod_q_lt _) _) ?_
  simp only [Act.put, List.setIfInBounds_toArray, List.set_cons_zero, List.set_cons_succ]
  apply headRun_val
  · intro w1 h1
    go_simp
    with_reducible rfl
  simp only [Act.put, List.setIfInBounds_toArray, List.set_cons_zero, List.set_cons_succ]
  apply headRun_val
  · intro w1 h1
    go_simp
    with_reducible rfl
  simp only [Act.put, List.setIfInBounds_toArray, List.set_cons_zero, List.set_cons_succ]
  apply headRun_val
  · intro w1 h1
    go_simp
    with_reducible rfl
  simp only [Act.put, List.setIfInBounds_toArray, List.set_cons_zero, List.set_cons_succ]
  refine headRun_alloc rfl rfl al_num ?_
  refine headRun_nil (endK1 ?_)
  intro g2 w3 hE3
  clear hE2
  simp only [List.drop_succ_cons, List.drop_zero, Act.put, List.setIfInBounds_toArray, List.set_cons_zero, List.set_cons_succ]
  refine wl_store (i := 0) hE3 rfl rfl rfl rfl rfl (sz_of (n := 4) (by kernel_rfl) (by first | (simp only [ints_size, digs_length, List.length_replicate, List.length_cons, List.length_nil]; done) | (simp only [ints_size, *]; done) | rfl)) (by first | (simp only [ints_size, digs_length, List.length_replicate, List.length_cons, List.length_nil]; done) | (simp only [ints_size, *]; done) | rfl) (by first | exact ints_one _ _ | decide | simp [*]) ?_
  intro w4 hE4
  clear hE3
  simp only [List.set_cons_zero, List.set_cons_succ] at hE4
  simp only [Act.put, List.setIfInBounds_toArray, List.set_cons_zero, List.set_cons_succ]
  apply wl_val rfl
  · go_simp
    with_reducible rfl
  simp only [Act.put, List.setIfInBounds_toArray, List.set_cons_zero, List.set_cons_succ]
  repeat ((fail_if_success (with_reducible show wpList _ _ _ (List.cons _ _) _ _)); (fail_if_success (with_reducible show Code.wp _ (Code.region _ _ true) _ _ _)); go_step)
  apply wl_val rfl
  · go_simp
    with_reducible rfl
  simp only [Act.put, List.setIfInBounds_toArray, List.set_cons_zero, List.set_cons_succ]
  refine wl_call hE4 rfl (by go_simp) (rest4_of _ _ _ (neg_lt _) _ (hE4.get (i := 0) rfl)) ?_
  intro w5 hE5
  clear hE4
  simp only [Act.put, List.setIfInBounds_toArray, List.set_cons_zero, List.set_cons_succ]
  refine wl_call hE5 rfl (by go_simp) (bytes_any ((q + big256 - val 256 a % q) % big256 % q) (mod_q_lt _) _) ?_
  intro w6 hE6
  clear hE5
  simp only [Act.put, List.setIfInBounds_toArray, List.set_cons_zero, List.set_cons_succ]
  refine wl_store (i := 1) hE6 rfl rfl rfl rfl rfl (sz_of (n := 32) (by kernel_rfl) (by first | (simp only [ints_size, digs_length, List.length_replicate, List.length_cons, List.length_nil]; done) | (simp only [ints_size, *]; done) | rfl)) (by first | (simp only [ints_size, digs_length, List.length_replicate, List.length_cons, List.length_nil]; done) | (simp only [ints_size, *]; done) | rfl) (by first | exact ints_one _ _ | decide | simp [*]) ?_
  intro w7 hE7
  clear hE6
  simp only [List.set_cons_zero, List.set_cons_succ] at hE7
  simp only [Act.put, List.setIfInBounds_toArray, List.set_cons_zero, List.set_cons_succ]
  repeat ((fail_if_success (with_reducible show wpList _ _ _ (List.cons _ _) _ _)); (fail_if_success (with_reducible show Code.wp _ (Code.region _ _ true) _ _ _)); go_step)
  refine bodyPost_ret (results_cell_row rfl _ _ _ _ _ (0, 0) _ rfl (hE7.get (i := 1) rfl) Try.underlying22 rfl (sz_of (n := 32) (by kernel_rfl) (by first | (simp only [ints_size, digs_length, List.length_replicate, List.length_cons, List.length_nil]; done) | (simp only [ints_size, *]; done) | rfl))) rfl ⟨by rw [neg_end], hE7.below⟩


end Go.Proofs.Ytobfgleckcpcpaa
