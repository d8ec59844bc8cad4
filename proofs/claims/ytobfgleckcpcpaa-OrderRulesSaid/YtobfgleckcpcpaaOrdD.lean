/-
  Layer 5: the rest of words divided by the order, bit by bit.
-/
import Derived.Test.YtobfgleckcpcpaaOrdC
namespace Go.Proofs.Ytobfgleckcpcpaa
open Go.RowKit
set_option linter.unusedVariables false
set_option linter.unusedSimpArgs false

theorem bit_of_word (V j : Nat) : V / 18446744073709551616 ^ (j / 64) % 18446744073709551616 / 2 ^ (j % 64) % 2 = V / 2 ^ j % 2 := by
  have e : (18446744073709551616 : Nat) = 2 ^ 64 := by decide
  rw [e, ← Nat.pow_mul, mod_pow_div_mod (B := 2) _ 64 (j % 64) (Nat.mod_lt _ (by decide)), Nat.div_div_eq_div_mul, ← Nat.pow_add]
  congr 3
  omega
theorem half_step (V j : Nat) : V / 2 ^ j = 2 * (V / 2 ^ (j + 1)) + V / 2 ^ j % 2 := by
  rw [Nat.pow_succ, ← Nat.div_div_eq_div_mul]
  omega
theorem rest_step (V j : Nat) : (2 * (V / 2 ^ (j + 1) % q) + V / 2 ^ j % 2) % q = V / 2 ^ j % q := by
  conv => rhs; rw [half_step]
  rw [Nat.add_mod, Nat.mul_mod, Nat.mod_mod, ← Nat.mul_mod, ← Nat.add_mod]
theorem rest_lt (V j : Nat) : 2 * (V / 2 ^ (j + 1) % q) + V / 2 ^ j % 2 < 2 * q := by
  have h1 : V / 2 ^ (j + 1) % q < q := Nat.mod_lt _ (by decide)
  have h2 : V / 2 ^ j % 2 < 2 := Nat.mod_lt _ (by decide)
  generalize q = Q at *
  omega
theorem rest_end {M : Nat} (h : M < 2 * q) : (decide (M < q) = true → digs 18446744073709551616 4 M = digs 18446744073709551616 4 (M % q)) ∧ (decide (M < q) = false → digs 18446744073709551616 4 ((M + big256 - q) % big256) = digs 18446744073709551616 4 (M % q)) := by
  have e : (decide (M < q) = true → M = M % q) ∧ (decide (M < q) = false → (M + big256 - q) % big256 = M % q) := by
    unfold q big256 at *
    constructor
    · intro h'
      have := of_decide_eq_true h'
      omega
    · intro h'
      have := of_decide_eq_false h'
      omega
  exact ⟨fun h' => by rw [← e.1 h'], fun h' => by rw [e.2 h']⟩
theorem and_one (x : Nat) (h : x < 18446744073709551616) : bits .and .u64 (x : Int) 1 = ((x % 2 : Nat) : Int) := by
  rw [← nat_mask1 x]
  exact u64_and_nat x 1 h (by decide)

set_option maxHeartbeats 2000000 in
theorem rest4_any (g : Nat) (l : List Nat) (T : TypeId) (hl : l.length = 4) (dl : Digs 18446744073709551616 l) (w : World) (hg : w.heap[g]? = some (.cells (ints .u64 l) T (0, 0))) :
    Gives 19 #[.slice (some ⟨g, 0, none⟩) 4 4] w (num (val 18446744073709551616 l % q)) := by
  have hlt : g < w.heap.size := (Array.getElem?_eq_some_iff.1 hg).1
  have hE0 := Env.nil w
  have Hl := Lib.hid hl
  clear hl
  have Hg := Lib.hid hg
  clear hg
  have hV : val 18446744073709551616 l / 2 ^ (64 * 4) % q = 0 := by
    have := val_lt dl
    rw [Hl.out] at this
    rw [Nat.pow_mul 2 64 4, Nat.div_eq_of_lt this]
    rfl
  have HV := Lib.hid hV
  clear hV
  go_enter Try.func19, Try.ntmps19
  repeat ((fail_if_success (with_reducible show wpList _ _ _ (List.cons _ _) _ _)); (fail_if_success (with_reducible show Code.wp _ (Code.region _ _ true) _ _ _)); go_step)
  refine wl_alloc hE0 rfl rfl al_num ?_
  intro g0 w1 hE1
  clear hE0
  simp only [Act.put, List.setIfInBounds_toArray, List.set_cons_zero, List.set_cons_succ]
  repeat ((fail_if_success (with_reducible show wpList _ _ _ (List.cons _ _) _ _)); (fail_if_success (with_reducible show Code.wp _ (Code.region _ _ true) _ _ _)); go_step)
  refine wl_alloc hE1 rfl rfl al_num ?_
  intro g1 w2 hE2
  clear hE1
  simp only [Act.put, List.setIfInBounds_toArray, List.set_cons_zero, List.set_cons_succ]
  repeat ((fail_if_success (with_reducible show wpList _ _ _ (List.cons _ _) _ _)); (fail_if_success (with_reducible show Code.wp _ (Code.region _ _ true) _ _ _)); go_step)
  refine wl_call hE2 rfl (by go_simp) (q_any _) ?_
  intro w3 hE3
  clear hE2
  simp only [Act.put, List.setIfInBounds_toArray, List.set_cons_zero, List.set_cons_succ]
  refine wl_alloc hE3 rfl rfl al_num ?_
  intro g2 w4 hE4
  clear hE3
  simp only [Act.put, List.setIfInBounds_toArray, List.set_cons_zero, List.set_cons_succ]
  refine wl_store (i := 0) hE4 rfl rfl rfl rfl rfl (sz_of (n := 4) (by kernel_rfl) (by first | (simp only [ints_size, digs_length, List.length_replicate, List.length_cons, List.length_nil]; done) | (simp only [ints_size, *]; done) | rfl)) (by first | (simp only [ints_size, digs_length, List.length_replicate, List.length_cons, List.length_nil]; done) | (simp only [ints_size, *]; done) | rfl) (by first | exact ints_one _ _ | decide | simp [*]) ?_
  intro w5 hE5
  clear hE4
  simp only [List.set_cons_zero, List.set_cons_succ] at hE5
  simp only [Act.put, List.setIfInBounds_toArray, List.set_cons_zero, List.set_cons_succ]
  go_wp2
  go_loopw [5, 6, 7] (fun i _ _ wr => ∃ k : Nat, k ≤ 64 * 4 ∧ i = .int .i64 ((k : Int) - 1) ∧ Env w [⟨g2, 37, ints .u64 (digs 18446744073709551616 4 q)⟩, ⟨g1, 37, ints .u64 (digs 18446744073709551616 4 (val 18446744073709551616 l / 2 ^ k % q))⟩, ⟨g0, 37, ints .u64 (List.replicate 4 0)⟩] wr) (fun i _ _ _ => (intOf i + 1).toNat)
  case atStart => exact ⟨64 * 4, Nat.le_refl _, rfl, by rw [HV.out]; exact hE5⟩
  case round =>
    obtain ⟨k, hk, rfl, hE0⟩ := hrel
    cases k with
    | zero =>
      have hj : ((0 : Nat) : Int) - 1 = -1 := rfl
      rw [hj]
      clear hj
      repeat ((fail_if_success (with_reducible show wpList _ _ _ (List.cons _ _) _ _)); (fail_if_success (with_reducible show Code.wp _ (Code.region _ _ true) _ _ _)); go_step)
      apply wl_val rfl
      · go_simp
        with_reducible rfl
      simp only [Act.put, List.setIfInBounds_toArray, List.set_cons_zero, List.set_cons_succ]
      apply wl_val rfl
      · go_simp
        with_reducible rfl
      simp only [Act.put, List.setIfInBounds_toArray, List.set_cons_zero, List.set_cons_succ]
      repeat ((fail_if_success (with_reducible show wpList _ _ _ (List.cons _ _) _ _)); (fail_if_success (with_reducible show Code.wp _ (Code.region _ _ true) _ _ _)); go_step)
      refine wl_load (i := 1) hE0 rfl rfl rfl rfl Try.underlying37 rfl (sz_of (n := 4) (by kernel_rfl) (by first | (simp only [ints_size, digs_length, List.length_replicate, List.length_cons, List.length_nil]; done) | (simp only [ints_size, *]; done) | rfl)) ?_
      simp only [Act.put, List.setIfInBounds_toArray, List.set_cons_zero, List.set_cons_succ]
      refine wl_store (i := 2) hE0 rfl rfl rfl rfl rfl (sz_of (n := 4) (by kernel_rfl) (by first | (simp only [ints_size, digs_length, List.length_replicate, List.length_cons, List.length_nil]; done) | (simp only [ints_size, *]; done) | rfl)) (by first | (simp only [ints_size, digs_length, List.length_replicate, List.length_cons, List.length_nil]; done) | (simp only [ints_size, *]; done) | rfl) (by first | exact ints_one _ _ | decide | simp [*]) ?_
      intro w1 hE1
      clear hE0
      simp only [List.set_cons_zero, List.set_cons_succ] at hE1
      simp only [Act.put, List.setIfInBounds_toArray, List.set_cons_zero, List.set_cons_succ]
      repeat ((fail_if_success (with_reducible show wpList _ _ _ (List.cons _ _) _ _)); (fail_if_success (with_reducible show Code.wp _ (Code.region _ _ true) _ _ _)); go_step)
      refine bodyPost_ret (results_cell_row rfl _ _ _ _ _ (0, 0) _ rfl (hE1.get (i := 2) rfl) Try.underlying37 rfl (sz_of (n := 4) (by kernel_rfl) (by first | (simp only [ints_size, digs_length, List.length_replicate, List.length_cons, List.length_nil]; done) | (simp only [ints_size, *]; done) | rfl))) rfl ⟨by rw [Nat.pow_zero, Nat.div_one], hE1.below⟩
    | succ j =>
      have hj : ((j + 1 : Nat) : Int) - 1 = (j : Int) := by omega
      rw [hj]
      clear hj
      have hj0 : (0 : Int) ≤ (j : Int) := by omega
      have hjl : j / 64 < l.length := by rw [Hl.out]; omega
      have hx : IntKind.i64.wrap ((j : Int) / 64) = (j : Int) / 64 := by rw [IntKind.wrap_i64]; omega
      have hx' : (j : Int) / 64 < 4 := by omega
      have hx0 : (0 : Int) ≤ (j : Int) / 64 := by omega
      have hxt : ((j : Int) / 64).toNat = j / 64 := by omega
      have htm : (j : Int).tmod 64 = (j : Int) % 64 := Int.tmod_eq_emod_of_nonneg (by omega)
      have hmt : ((j : Int) % 64).toNat = j % 64 := by omega
      have hb1 : val 18446744073709551616 l / 2 ^ j % 2 ≤ 1 := by omega
      have hgd : l.getD (j / 64) 0 = l[j / 64] := by simp [List.getD, hjl]
      have hbit : bits .and .u64 ((l[j / 64] : Nat) / 2 ^ (j % 64)) 1 = ((val 18446744073709551616 l / 2 ^ j % 2 : Nat) : Int) := by
        rw [← bit_of_word, val_div_mod dl (by decide), hgd, ← and_one _ (Nat.lt_of_le_of_lt (Nat.div_le_self _ _) (dl.getElem hjl))]
        simp
      have hMq := rest_lt (val 18446744073709551616 l) j
      have hMe := rest_step (val 18446744073709551616 l) j
      obtain ⟨b, hb⟩ : ∃ b, b = val 18446744073709551616 l / 2 ^ j % 2 := ⟨_, rfl⟩
      rw [← hb] at hMq hMe hbit hb1
      clear hb
      have hN : val 18446744073709551616 l / 2 ^ (j + 1) % q < q := Nat.mod_lt _ (by decide)
      obtain ⟨N, hNe⟩ : ∃ N, N = val 18446744073709551616 l / 2 ^ (j + 1) % q := ⟨_, rfl⟩
      rw [← hNe] at hMq hMe hN hE0
      clear hNe
      have hMb : (2 * N + b) % big256 = 2 * N + b := Nat.mod_eq_of_lt (Nat.lt_trans hMq (by decide))
      have HD : ∀ w, Gives _ _ w _ := double_any N b (Nat.lt_trans hN (by decide)) hb1
      rw [hMb] at HD
      obtain ⟨M, hM⟩ : ∃ M, M = 2 * N + b := ⟨_, rfl⟩
      rw [← hM] at hMq hMe HD
      clear hM hMb hN hb1
      have HM : ∀ w, Gives _ _ w _ := minus_any M q (Nat.lt_trans hMq (by decide)) (by decide)
      have hMend := rest_end hMq
      rw [hMe] at hMend
      obtain ⟨u, hu⟩ : ∃ u, u = decide (M < q) := ⟨_, rfl⟩
      rw [← hu] at HM hMend
      clear hu hMq hMe
      have HD := Lib.hid HD
      have HM := Lib.hid HM
      have HE := Lib.hid hMend
      clear hMend
      repeat ((fail_if_success (with_reducible show wpList _ _ _ (List.cons _ _) _ _)); (fail_if_success (with_reducible show Code.wp _ (Code.region _ _ true) _ _ _)); go_step)
      apply wl_val rfl
      · go_simp
        with_reducible rfl
      simp only [Act.put, List.setIfInBounds_toArray, List.set_cons_zero, List.set_cons_succ]
      apply wl_val rfl
      · go_simp
        with_reducible rfl
      simp only [Act.put, List.setIfInBounds_toArray, List.set_cons_zero, List.set_cons_succ]
      repeat ((fail_if_success (with_reducible show wpList _ _ _ (List.cons _ _) _ _)); (fail_if_success (with_reducible show Code.wp _ (Code.region _ _ true) _ _ _)); go_step)
      refine wp_region_env 11 (by kernel_rfl) (by kernel_rfl) (fun _ _ d _ _ h => by cases d <;> exact h) hE0 ?_
      refine headRun_load rfl rfl (fun w h => h.get (i := 1) rfl) Try.underlying37 rfl (sz_of (n := 4) (by kernel_rfl) (by first | (simp only [ints_size, digs_length, List.length_replicate, List.length_cons, List.length_nil]; done) | (simp only [ints_size, *]; done) | rfl)) ?_
      simp only [Act.put, List.setIfInBounds_toArray, List.set_cons_zero, List.set_cons_succ]
      apply headRun_val
      · intro w1 h1
        go_simp
        with_reducible rfl
      simp only [Act.put, List.setIfInBounds_toArray, List.set_cons_zero, List.set_cons_succ]
      apply headRun_val
      · intro w1 h1
        go_simp
        with_reducible rfl
      simp only [Act.put, List.setIfInBounds_toArray, List.set_cons_zero, List.set_cons_succ]
      apply headRun_val
      · intro w1 h1
        go_simp
        with_reducible rfl
      simp only [Act.put, List.setIfInBounds_toArray, List.set_cons_zero, List.set_cons_succ]
      apply headRun_val
      · intro w1 h1
        go_simp
        with_reducible rfl
      simp only [Act.put, List.setIfInBounds_toArray, List.set_cons_zero, List.set_cons_succ]
      apply headRun_val
      · intro w1 h1
        have ca := cell_of_row w1 g (j / 64) _ _ _ ((h1.below.block g hlt).trans Hg.out)
        rw [ints_get? _ _ _ hjl] at ca
        go_simp
        with_reducible rfl
      simp only [Act.put, List.setIfInBounds_toArray, List.set_cons_zero, List.set_cons_succ]
      apply headRun_val
      · intro w1 h1
        go_simp
        with_reducible rfl
      simp only [Act.put, List.setIfInBounds_toArray, List.set_cons_zero, List.set_cons_succ]
      apply headRun_val
      · intro w1 h1
        go_simp
        with_reducible rfl
      simp only [Act.put, List.setIfInBounds_toArray, List.set_cons_zero, List.set_cons_succ]
      apply headRun_val
      · intro w1 h1
        go_simp
        with_reducible rfl
      simp only [Act.put, List.setIfInBounds_toArray, List.set_cons_zero, List.set_cons_succ]
      apply headRun_val
      · intro w1 h1
        go_simp
        with_reducible rfl
      simp only [Act.put, List.setIfInBounds_toArray, List.set_cons_zero, List.set_cons_succ]
      refine headRun_call (fun w1 => by go_simp) (fun w1 hW => HD.out _) ?_
      simp only [Act.put, List.setIfInBounds_toArray, List.set_cons_zero, List.set_cons_succ]
      refine headRun_nil (endK0 ?_)
      intro  w1 hE1
      clear hE0
      simp only [List.drop_succ_cons, List.drop_zero, Act.put, List.setIfInBounds_toArray, List.set_cons_zero, List.set_cons_succ]
      refine wl_store (i := 1) hE1 rfl rfl rfl rfl rfl (sz_of (n := 4) (by kernel_rfl) (by first | (simp only [ints_size, digs_length, List.length_replicate, List.length_cons, List.length_nil]; done) | (simp only [ints_size, *]; done) | rfl)) (by first | (simp only [ints_size, digs_length, List.length_replicate, List.length_cons, List.length_nil]; done) | (simp only [ints_size, *]; done) | rfl) (by first | exact ints_one _ _ | decide | simp [*]) ?_
      intro w2 hE2
      clear hE1
      simp only [List.set_cons_zero, List.set_cons_succ] at hE2
      simp only [Act.put, List.setIfInBounds_toArray, List.set_cons_zero, List.set_cons_succ]
      repeat ((fail_if_success (with_reducible show wpList _ _ _ (List.cons _ _) _ _)); (fail_if_success (with_reducible show Code.wp _ (Code.region _ _ true) _ _ _)); go_step)
      refine wl_load (i := 1) hE2 rfl rfl rfl rfl Try.underlying37 rfl (sz_of (n := 4) (by kernel_rfl) (by first | (simp only [ints_size, digs_length, List.length_replicate, List.length_cons, List.length_nil]; done) | (simp only [ints_size, *]; done) | rfl)) ?_
      simp only [Act.put, List.setIfInBounds_toArray, List.set_cons_zero, List.set_cons_succ]
      refine wl_load (i := 0) hE2 rfl rfl rfl rfl Try.underlying37 rfl (sz_of (n := 4) (by kernel_rfl) (by first | (simp only [ints_size, digs_length, List.length_replicate, List.length_cons, List.length_nil]; done) | (simp only [ints_size, *]; done) | rfl)) ?_
      simp only [Act.put, List.setIfInBounds_toArray, List.set_cons_zero, List.set_cons_succ]
      refine wl_call hE2 rfl (by go_simp) (HM.out _) ?_
      intro w3 hE3
      clear hE2
      simp only [Act.put, List.setIfInBounds_toArray, List.set_cons_zero, List.set_cons_succ]
      apply wl_val rfl
      · go_simp
        with_reducible rfl
      simp only [Act.put, List.setIfInBounds_toArray, List.set_cons_zero, List.set_cons_succ]
      apply wl_val rfl
      · go_simp
        with_reducible rfl
      simp only [Act.put, List.setIfInBounds_toArray, List.set_cons_zero, List.set_cons_succ]
      apply wl_val rfl
      · go_simp
        with_reducible rfl
      simp only [Act.put, List.setIfInBounds_toArray, List.set_cons_zero, List.set_cons_succ]
      refine wl_alloc hE3 rfl rfl al_num ?_
      intro g90 w4 hE4
      clear hE3
      simp only [Act.put, List.setIfInBounds_toArray, List.set_cons_zero, List.set_cons_succ]
      refine wl_store (i := 0) hE4 rfl rfl rfl rfl rfl (sz_of (n := 4) (by kernel_rfl) (by first | (simp only [ints_size, digs_length, List.length_replicate, List.length_cons, List.length_nil]; done) | (simp only [ints_size, *]; done) | rfl)) (by first | (simp only [ints_size, digs_length, List.length_replicate, List.length_cons, List.length_nil]; done) | (simp only [ints_size, *]; done) | rfl) (by first | exact ints_one _ _ | decide | simp [*]) ?_
      intro w5 hE5
      clear hE4
      simp only [List.set_cons_zero, List.set_cons_succ] at hE5
      simp only [Act.put, List.setIfInBounds_toArray, List.set_cons_zero, List.set_cons_succ]
      apply wl_val rfl
      · go_simp
        with_reducible rfl
      simp only [Act.put, List.setIfInBounds_toArray, List.set_cons_zero, List.set_cons_succ]
      have hjw : IntKind.i64.wrap ((j : Int) - 1) = (j : Int) - 1 := by rw [IntKind.wrap_i64]; omega
      cases u
      · rw [HE.out.2 rfl] at hE5
        repeat ((fail_if_success (with_reducible show wpList _ _ _ (List.cons _ _) _ _)); (fail_if_success (with_reducible show Code.wp _ (Code.region _ _ true) _ _ _)); go_step)
        apply wl_val rfl
        · go_simp
          with_reducible rfl
        simp only [Act.put, List.setIfInBounds_toArray, List.set_cons_zero, List.set_cons_succ]
        apply wl_val rfl
        · go_simp
          with_reducible rfl
        simp only [Act.put, List.setIfInBounds_toArray, List.set_cons_zero, List.set_cons_succ]
        repeat ((fail_if_success (with_reducible show wpList _ _ _ (List.cons _ _) _ _)); (fail_if_success (with_reducible show Code.wp _ (Code.region _ _ true) _ _ _)); go_step)
        refine wl_load (i := 0) hE5 rfl rfl rfl rfl Try.underlying37 rfl (sz_of (n := 4) (by kernel_rfl) (by first | (simp only [ints_size, digs_length, List.length_replicate, List.length_cons, List.length_nil]; done) | (simp only [ints_size, *]; done) | rfl)) ?_
        simp only [Act.put, List.setIfInBounds_toArray, List.set_cons_zero, List.set_cons_succ]
        refine wl_store (i := 2) hE5 rfl rfl rfl rfl rfl (sz_of (n := 4) (by kernel_rfl) (by first | (simp only [ints_size, digs_length, List.length_replicate, List.length_cons, List.length_nil]; done) | (simp only [ints_size, *]; done) | rfl)) (by first | (simp only [ints_size, digs_length, List.length_replicate, List.length_cons, List.length_nil]; done) | (simp only [ints_size, *]; done) | rfl) (by first | exact ints_one _ _ | decide | simp [*]) ?_
        intro w6 hE6
        clear hE5
        simp only [List.set_cons_zero, List.set_cons_succ] at hE6
        simp only [Act.put, List.setIfInBounds_toArray, List.set_cons_zero, List.set_cons_succ]
        repeat ((fail_if_success (with_reducible show wpList _ _ _ (List.cons _ _) _ _)); (fail_if_success (with_reducible show Code.wp _ (Code.region _ _ true) _ _ _)); go_step)
        apply wl_val rfl
        · go_simp
          with_reducible rfl
        simp only [Act.put, List.setIfInBounds_toArray, List.set_cons_zero, List.set_cons_succ]
        apply wl_val rfl
        · go_simp
          with_reducible rfl
        simp only [Act.put, List.setIfInBounds_toArray, List.set_cons_zero, List.set_cons_succ]
        apply wl_val rfl
        · go_simp
          with_reducible rfl
        simp only [Act.put, List.setIfInBounds_toArray, List.set_cons_zero, List.set_cons_succ]
        go_wp2
        go_roundw
        case rel => exact ⟨j, by omega, rfl, hE6.sub (List.sublist_cons_self _ _)⟩
        case measure => simp [intOf]
      ·
        repeat ((fail_if_success (with_reducible show wpList _ _ _ (List.cons _ _) _ _)); (fail_if_success (with_reducible show Code.wp _ (Code.region _ _ true) _ _ _)); go_step)
        apply wl_val rfl
        · go_simp
          with_reducible rfl
        simp only [Act.put, List.setIfInBounds_toArray, List.set_cons_zero, List.set_cons_succ]
        apply wl_val rfl
        · go_simp
          with_reducible rfl
        simp only [Act.put, List.setIfInBounds_toArray, List.set_cons_zero, List.set_cons_succ]
        repeat ((fail_if_success (with_reducible show wpList _ _ _ (List.cons _ _) _ _)); (fail_if_success (with_reducible show Code.wp _ (Code.region _ _ true) _ _ _)); go_step)
        apply wl_val rfl
        · go_simp
          with_reducible rfl
        simp only [Act.put, List.setIfInBounds_toArray, List.set_cons_zero, List.set_cons_succ]
        apply wl_val rfl
        · go_simp
          with_reducible rfl
        simp only [Act.put, List.setIfInBounds_toArray, List.set_cons_zero, List.set_cons_succ]
        apply wl_val rfl
        · go_simp
          with_reducible rfl
        simp only [Act.put, List.setIfInBounds_toArray, List.set_cons_zero, List.set_cons_succ]
        go_wp2
        go_roundw
        case rel => exact ⟨j, by omega, rfl, by rw [← HE.out.1 rfl]; exact hE5.sub (List.sublist_cons_self _ _)⟩
        case measure => simp [intOf]
set_option maxHeartbeats 2000000 in
theorem rest8_any (g : Nat) (l : List Nat) (T : TypeId) (hl : l.length = 8) (dl : Digs 18446744073709551616 l) (w : World) (hg : w.heap[g]? = some (.cells (ints .u64 l) T (0, 0))) :
    Gives 19 #[.slice (some ⟨g, 0, none⟩) 8 8] w (num (val 18446744073709551616 l % q)) := by
  have hlt : g < w.heap.size := (Array.getElem?_eq_some_iff.1 hg).1
  have hE0 := Env.nil w
  have Hl := Lib.hid hl
  clear hl
  have Hg := Lib.hid hg
  clear hg
  have hV : val 18446744073709551616 l / 2 ^ (64 * 8) % q = 0 := by
    have := val_lt dl
    rw [Hl.out] at this
    rw [Nat.pow_mul 2 64 8, Nat.div_eq_of_lt this]
    rfl
  have HV := Lib.hid hV
  clear hV
  go_enter Try.func19, Try.ntmps19
  repeat ((fail_if_success (with_reducible show wpList _ _ _ (List.cons _ _) _ _)); (fail_if_success (with_reducible show Code.wp _ (Code.region _ _ true) _ _ _)); go_step)
  refine wl_alloc hE0 rfl rfl al_num ?_
  intro g0 w1 hE1
  clear hE0
  simp only [Act.put, List.setIfInBounds_toArray, List.set_cons_zero, List.set_cons_succ]
  repeat ((fail_if_success (with_reducible show wpList _ _ _ (List.cons _ _) _ _)); (fail_if_success (with_reducible show Code.wp _ (Code.region _ _ true) _ _ _)); go_step)
  refine wl_alloc hE1 rfl rfl al_num ?_
  intro g1 w2 hE2
  clear hE1
  simp only [Act.put, List.setIfInBounds_toArray, List.set_cons_zero, List.set_cons_succ]
  repeat ((fail_if_success (with_reducible show wpList _ _ _ (List.cons _ _) _ _)); (fail_if_success (with_reducible show Code.wp _ (Code.region _ _ true) _ _ _)); go_step)
  refine wl_call hE2 rfl (by go_simp) (q_any _) ?_
  intro w3 hE3
  clear hE2
  simp only [Act.put, List.setIfInBounds_toArray, List.set_cons_zero, List.set_cons_succ]
  refine wl_alloc hE3 rfl rfl al_num ?_
  intro g2 w4 hE4
  clear hE3
  simp only [Act.put, List.setIfInBounds_toArray, List.set_cons_zero, List.set_cons_succ]
  refine wl_store (i := 0) hE4 rfl rfl rfl rfl rfl (sz_of (n := 4) (by kernel_rfl) (by first | (simp only [ints_size, digs_length, List.length_replicate, List.length_cons, List.length_nil]; done) | (simp only [ints_size, *]; done) | rfl)) (by first | (simp only [ints_size, digs_length, List.length_replicate, List.length_cons, List.length_nil]; done) | (simp only [ints_size, *]; done) | rfl) (by first | exact ints_one _ _ | decide | simp [*]) ?_
  intro w5 hE5
  clear hE4
  simp only [List.set_cons_zero, List.set_cons_succ] at hE5
  simp only [Act.put, List.setIfInBounds_toArray, List.set_cons_zero, List.set_cons_succ]
  go_wp2
  go_loopw [5, 6, 7] (fun i _ _ wr => ∃ k : Nat, k ≤ 64 * 8 ∧ i = .int .i64 ((k : Int) - 1) ∧ Env w [⟨g2, 37, ints .u64 (digs 18446744073709551616 4 q)⟩, ⟨g1, 37, ints .u64 (digs 18446744073709551616 4 (val 18446744073709551616 l / 2 ^ k % q))⟩, ⟨g0, 37, ints .u64 (List.replicate 4 0)⟩] wr) (fun i _ _ _ => (intOf i + 1).toNat)
  case atStart => exact ⟨64 * 8, Nat.le_refl _, rfl, by rw [HV.out]; exact hE5⟩
  case round =>
    obtain ⟨k, hk, rfl, hE0⟩ := hrel
    cases k with
    | zero =>
      have hj : ((0 : Nat) : Int) - 1 = -1 := rfl
      rw [hj]
      clear hj
      repeat ((fail_if_success (with_reducible show wpList _ _ _ (List.cons _ _) _ _)); (fail_if_success (with_reducible show Code.wp _ (Code.region _ _ true) _ _ _)); go_step)
      apply wl_val rfl
      · go_simp
        with_reducible rfl
      simp only [Act.put, List.setIfInBounds_toArray, List.set_cons_zero, List.set_cons_succ]
      apply wl_val rfl
      · go_simp
        with_reducible rfl
      simp only [Act.put, List.setIfInBounds_toArray, List.set_cons_zero, List.set_cons_succ]
      repeat ((fail_if_success (with_reducible show wpList _ _ _ (List.cons _ _) _ _)); (fail_if_success (with_reducible show Code.wp _ (Code.region _ _ true) _ _ _)); go_step)
      refine wl_load (i := 1) hE0 rfl rfl rfl rfl Try.underlying37 rfl (sz_of (n := 4) (by kernel_rfl) (by first | (simp only [ints_size, digs_length, List.length_replicate, List.length_cons, List.length_nil]; done) | (simp only [ints_size, *]; done) | rfl)) ?_
      simp only [Act.put, List.setIfInBounds_toArray, List.set_cons_zero, List.set_cons_succ]
      refine wl_store (i := 2) hE0 rfl rfl rfl rfl rfl (sz_of (n := 4) (by kernel_rfl) (by first | (simp only [ints_size, digs_length, List.length_replicate, List.length_cons, List.length_nil]; done) | (simp only [ints_size, *]; done) | rfl)) (by first | (simp only [ints_size, digs_length, List.length_replicate, List.length_cons, List.length_nil]; done) | (simp only [ints_size, *]; done) | rfl) (by first | exact ints_one _ _ | decide | simp [*]) ?_
      intro w1 hE1
      clear hE0
      simp only [List.set_cons_zero, List.set_cons_succ] at hE1
      simp only [Act.put, List.setIfInBounds_toArray, List.set_cons_zero, List.set_cons_succ]
      repeat ((fail_if_success (with_reducible show wpList _ _ _ (List.cons _ _) _ _)); (fail_if_success (with_reducible show Code.wp _ (Code.region _ _ true) _ _ _)); go_step)
      refine bodyPost_ret (results_cell_row rfl _ _ _ _ _ (0, 0) _ rfl (hE1.get (i := 2) rfl) Try.underlying37 rfl (sz_of (n := 4) (by kernel_rfl) (by first | (simp only [ints_size, digs_length, List.length_replicate, List.length_cons, List.length_nil]; done) | (simp only [ints_size, *]; done) | rfl))) rfl ⟨by rw [Nat.pow_zero, Nat.div_one], hE1.below⟩
    | succ j =>
      have hj : ((j + 1 : Nat) : Int) - 1 = (j : Int) := by omega
      rw [hj]
      clear hj
      have hj0 : (0 : Int) ≤ (j : Int) := by omega
      have hjl : j / 64 < l.length := by rw [Hl.out]; omega
      have hx : IntKind.i64.wrap ((j : Int) / 64) = (j : Int) / 64 := by rw [IntKind.wrap_i64]; omega
      have hx' : (j : Int) / 64 < 8 := by omega
      have hx0 : (0 : Int) ≤ (j : Int) / 64 := by omega
      have hxt : ((j : Int) / 64).toNat = j / 64 := by omega
      have htm : (j : Int).tmod 64 = (j : Int) % 64 := Int.tmod_eq_emod_of_nonneg (by omega)
      have hmt : ((j : Int) % 64).toNat = j % 64 := by omega
      have hb1 : val 18446744073709551616 l / 2 ^ j % 2 ≤ 1 := by omega
      have hgd : l.getD (j / 64) 0 = l[j / 64] := by simp [List.getD, hjl]
      have hbit : bits .and .u64 ((l[j / 64] : Nat) / 2 ^ (j % 64)) 1 = ((val 18446744073709551616 l / 2 ^ j % 2 : Nat) : Int) := by
        rw [← bit_of_word, val_div_mod dl (by decide), hgd, ← and_one _ (Nat.lt_of_le_of_lt (Nat.div_le_self _ _) (dl.getElem hjl))]
        simp
      have hMq := rest_lt (val 18446744073709551616 l) j
      have hMe := rest_step (val 18446744073709551616 l) j
      obtain ⟨b, hb⟩ : ∃ b, b = val 18446744073709551616 l / 2 ^ j % 2 := ⟨_, rfl⟩
      rw [← hb] at hMq hMe hbit hb1
      clear hb
      have hN : val 18446744073709551616 l / 2 ^ (j + 1) % q < q := Nat.mod_lt _ (by decide)
      obtain ⟨N, hNe⟩ : ∃ N, N = val 18446744073709551616 l / 2 ^ (j + 1) % q := ⟨_, rfl⟩
      rw [← hNe] at hMq hMe hN hE0
      clear hNe
      have hMb : (2 * N + b) % big256 = 2 * N + b := Nat.mod_eq_of_lt (Nat.lt_trans hMq (by decide))
      have HD : ∀ w, Gives _ _ w _ := double_any N b (Nat.lt_trans hN (by decide)) hb1
      rw [hMb] at HD
      obtain ⟨M, hM⟩ : ∃ M, M = 2 * N + b := ⟨_, rfl⟩
      rw [← hM] at hMq hMe HD
      clear hM hMb hN hb1
      have HM : ∀ w, Gives _ _ w _ := minus_any M q (Nat.lt_trans hMq (by decide)) (by decide)
      have hMend := rest_end hMq
      rw [hMe] at hMend
      obtain ⟨u, hu⟩ : ∃ u, u = decide (M < q) := ⟨_, rfl⟩
      rw [← hu] at HM hMend
      clear hu hMq hMe
      have HD := Lib.hid HD
      have HM := Lib.hid HM
      have HE := Lib.hid hMend
      clear hMend
      repeat ((fail_if_success (with_reducible show wpList _ _ _ (List.cons _ _) _ _)); (fail_if_success (with_reducible show Code.wp _ (Code.region _ _ true) _ _ _)); go_step)
      apply wl_val rfl
      · go_simp
        with_reducible rfl
      simp only [Act.put, List.setIfInBounds_toArray, List.set_cons_zero, List.set_cons_succ]
      apply wl_val rfl
      · go_simp
        with_reducible rfl
      simp only [Act.put, List.setIfInBounds_toArray, List.set_cons_zero, List.set_cons_succ]
      repeat ((fail_if_success (with_reducible show wpList _ _ _ (List.cons _ _) _ _)); (fail_if_success (with_reducible show Code.wp _ (Code.region _ _ true) _ _ _)); go_step)
      refine wp_region_env 11 (by kernel_rfl) (by kernel_rfl) (fun _ _ d _ _ h => by cases d <;> exact h) hE0 ?_
      refine headRun_load rfl rfl (fun w h => h.get (i := 1) rfl) Try.underlying37 rfl (sz_of (n := 4) (by kernel_rfl) (by first | (simp only [ints_size, digs_length, List.length_replicate, List.length_cons, List.length_nil]; done) | (simp only [ints_size, *]; done) | rfl)) ?_
      simp only [Act.put, List.setIfInBounds_toArray, List.set_cons_zero, List.set_cons_succ]
      apply headRun_val
      · intro w1 h1
        go_simp
        with_reducible rfl
      simp only [Act.put, List.setIfInBounds_toArray, List.set_cons_zero, List.set_cons_succ]
      apply headRun_val
      · intro w1 h1
        go_simp
        with_reducible rfl
      simp only [Act.put, List.setIfInBounds_toArray, List.set_cons_zero, List.set_cons_succ]
      apply headRun_val
      · intro w1 h1
        go_simp
        with_reducible rfl
      simp only [Act.put, List.setIfInBounds_toArray, List.set_cons_zero, List.set_cons_succ]
      apply headRun_val
      · intro w1 h1
        go_simp
        with_reducible rfl
      simp only [Act.put, List.setIfInBounds_toArray, List.set_cons_zero, List.set_cons_succ]
      apply headRun_val
      · intro w1 h1
        have ca := cell_of_row w1 g (j / 64) _ _ _ ((h1.below.block g hlt).trans Hg.out)
        rw [ints_get? _ _ _ hjl] at ca
        go_simp
        with_reducible rfl
      simp only [Act.put, List.setIfInBounds_toArray, List.set_cons_zero, List.set_cons_succ]
      apply headRun_val
      · intro w1 h1
        go_simp
        with_reducible rfl
      simp only [Act.put, List.setIfInBounds_toArray, List.set_cons_zero, List.set_cons_succ]
      apply headRun_val
      · intro w1 h1
        go_simp
        with_reducible rfl
      simp only [Act.put, List.setIfInBounds_toArray, List.set_cons_zero, List.set_cons_succ]
      apply headRun_val
      · intro w1 h1
        go_simp
        with_reducible rfl
      simp only [Act.put, List.setIfInBounds_toArray, List.set_cons_zero, List.set_cons_succ]
      apply headRun_val
      · intro w1 h1
        go_simp
        with_reducible rfl
      simp only [Act.put, List.setIfInBounds_toArray, List.set_cons_zero, List.set_cons_succ]
      refine headRun_call (fun w1 => by go_simp) (fun w1 hW => HD.out _) ?_
      simp only [Act.put, List.setIfInBounds_toArray, List.set_cons_zero, List.set_cons_succ]
      refine headRun_nil (endK0 ?_)
      intro  w1 hE1
      clear hE0
      simp only [List.drop_succ_cons, List.drop_zero, Act.put, List.setIfInBounds_toArray, List.set_cons_zero, List.set_cons_succ]
      refine wl_store (i := 1) hE1 rfl rfl rfl rfl rfl (sz_of (n := 4) (by kernel_rfl) (by first | (simp only [ints_size, digs_length, List.length_replicate, List.length_cons, List.length_nil]; done) | (simp only [ints_size, *]; done) | rfl)) (by first | (simp only [ints_size, digs_length, List.length_replicate, List.length_cons, List.length_nil]; done) | (simp only [ints_size, *]; done) | rfl) (by first | exact ints_one _ _ | decide | simp [*]) ?_
      intro w2 hE2
      clear hE1
      simp only [List.set_cons_zero, List.set_cons_succ] at hE2
      simp only [Act.put, List.setIfInBounds_toArray, List.set_cons_zero, List.set_cons_succ]
      repeat ((fail_if_success (with_reducible show wpList _ _ _ (List.cons _ _) _ _)); (fail_if_success (with_reducible show Code.wp _ (Code.region _ _ true) _ _ _)); go_step)
      refine wl_load (i := 1) hE2 rfl rfl rfl rfl Try.underlying37 rfl (sz_of (n := 4) (by kernel_rfl) (by first | (simp only [ints_size, digs_length, List.length_replicate, List.length_cons, List.length_nil]; done) | (simp only [ints_size, *]; done) | rfl)) ?_
      simp only [Act.put, List.setIfInBounds_toArray, List.set_cons_zero, List.set_cons_succ]
      refine wl_load (i := 0) hE2 rfl rfl rfl rfl Try.underlying37 rfl (sz_of (n := 4) (by kernel_rfl) (by first | (simp only [ints_size, digs_length, List.length_replicate, List.length_cons, List.length_nil]; done) | (simp only [ints_size, *]; done) | rfl)) ?_
      simp only [Act.put, List.setIfInBounds_toArray, List.set_cons_zero, List.set_cons_succ]
      refine wl_call hE2 rfl (by go_simp) (HM.out _) ?_
      intro w3 hE3
      clear hE2
      simp only [Act.put, List.setIfInBounds_toArray, List.set_cons_zero, List.set_cons_succ]
      apply wl_val rfl
      · go_simp
        with_reducible rfl
      simp only [Act.put, List.setIfInBounds_toArray, List.set_cons_zero, List.set_cons_succ]
      apply wl_val rfl
      · go_simp
        with_reducible rfl
      simp only [Act.put, List.setIfInBounds_toArray, List.set_cons_zero, List.set_cons_succ]
      apply wl_val rfl
      · go_simp
        with_reducible rfl
      simp only [Act.put, List.setIfInBounds_toArray, List.set_cons_zero, List.set_cons_succ]
      refine wl_alloc hE3 rfl rfl al_num ?_
      intro g90 w4 hE4
      clear hE3
      simp only [Act.put, List.setIfInBounds_toArray, List.set_cons_zero, List.set_cons_succ]
      refine wl_store (i := 0) hE4 rfl rfl rfl rfl rfl (sz_of (n := 4) (by kernel_rfl) (by first | (simp only [ints_size, digs_length, List.length_replicate, List.length_cons, List.length_nil]; done) | (simp only [ints_size, *]; done) | rfl)) (by first | (simp only [ints_size, digs_length, List.length_replicate, List.length_cons, List.length_nil]; done) | (simp only [ints_size, *]; done) | rfl) (by first | exact ints_one _ _ | decide | simp [*]) ?_
      intro w5 hE5
      clear hE4
      simp only [List.set_cons_zero, List.set_cons_succ] at hE5
      simp only [Act.put, List.setIfInBounds_toArray, List.set_cons_zero, List.set_cons_succ]
      apply wl_val rfl
      · go_simp
        with_reducible rfl
      simp only [Act.put, List.setIfInBounds_toArray, List.set_cons_zero, List.set_cons_succ]
      have hjw : IntKind.i64.wrap ((j : Int) - 1) = (j : Int) - 1 := by rw [IntKind.wrap_i64]; omega
      cases u
      · rw [HE.out.2 rfl] at hE5
        repeat ((fail_if_success (with_reducible show wpList _ _ _ (List.cons _ _) _ _)); (fail_if_success (with_reducible show Code.wp _ (Code.region _ _ true) _ _ _)); go_step)
        apply wl_val rfl
        · go_simp
          with_reducible rfl
        simp only [Act.put, List.setIfInBounds_toArray, List.set_cons_zero, List.set_cons_succ]
        apply wl_val rfl
        · go_simp
          with_reducible rfl
        simp only [Act.put, List.setIfInBounds_toArray, List.set_cons_zero, List.set_cons_succ]
        repeat ((fail_if_success (with_reducible show wpList _ _ _ (List.cons _ _) _ _)); (fail_if_success (with_reducible show Code.wp _ (Code.region _ _ true) _ _ _)); go_step)
        refine wl_load (i := 0) hE5 rfl rfl rfl rfl Try.underlying37 rfl (sz_of (n := 4) (by kernel_rfl) (by first | (simp only [ints_size, digs_length, List.length_replicate, List.length_cons, List.length_nil]; done) | (simp only [ints_size, *]; done) | rfl)) ?_
        simp only [Act.put, List.setIfInBounds_toArray, List.set_cons_zero, List.set_cons_succ]
        refine wl_store (i := 2) hE5 rfl rfl rfl rfl rfl (sz_of (n := 4) (by kernel_rfl) (by first | (simp only [ints_size, digs_length, List.length_replicate, List.length_cons, List.length_nil]; done) | (simp only [ints_size, *]; done) | rfl)) (by first | (simp only [ints_size, digs_length, List.length_replicate, List.length_cons, List.length_nil]; done) | (simp only [ints_size, *]; done) | rfl) (by first | exact ints_one _ _ | decide | simp [*]) ?_
        intro w6 hE6
        clear hE5
        simp only [List.set_cons_zero, List.set_cons_succ] at hE6
        simp only [Act.put, List.setIfInBounds_toArray, List.set_cons_zero, List.set_cons_succ]
        repeat ((fail_if_success (with_reducible show wpList _ _ _ (List.cons _ _) _ _)); (fail_if_success (with_reducible show Code.wp _ (Code.region _ _ true) _ _ _)); go_step)
        apply wl_val rfl
        · go_simp
          with_reducible rfl
        simp only [Act.put, List.setIfInBounds_toArray, List.set_cons_zero, List.set_cons_succ]
        apply wl_val rfl
        · go_simp
          with_reducible rfl
        simp only [Act.put, List.setIfInBounds_toArray, List.set_cons_zero, List.set_cons_succ]
        apply wl_val rfl
        · go_simp
          with_reducible rfl
        simp only [Act.put, List.setIfInBounds_toArray, List.set_cons_zero, List.set_cons_succ]
        go_wp2
        go_roundw
        case rel => exact ⟨j, by omega, rfl, hE6.sub (List.sublist_cons_self _ _)⟩
        case measure => simp [intOf]
      ·
        repeat ((fail_if_success (with_reducible show wpList _ _ _ (List.cons _ _) _ _)); (fail_if_success (with_reducible show Code.wp _ (Code.region _ _ true) _ _ _)); go_step)
        apply wl_val rfl
        · go_simp
          with_reducible rfl
        simp only [Act.put, List.setIfInBounds_toArray, List.set_cons_zero, List.set_cons_succ]
        apply wl_val rfl
        · go_simp
          with_reducible rfl
        simp only [Act.put, List.setIfInBounds_toArray, List.set_cons_zero, List.set_cons_succ]
        repeat ((fail_if_success (with_reducible show wpList _ _ _ (List.cons _ _) _ _)); (fail_if_success (with_reducible show Code.wp _ (Code.region _ _ true) _ _ _)); go_step)
        apply wl_val rfl
        · go_simp
          with_reducible rfl
        simp only [Act.put, List.setIfInBounds_toArray, List.set_cons_zero, List.set_cons_succ]
        apply wl_val rfl
        · go_simp
          with_reducible rfl
        simp only [Act.put, List.setIfInBounds_toArray, List.set_cons_zero, List.set_cons_succ]
        apply wl_val rfl
        · go_simp
          with_reducible rfl
        simp only [Act.put, List.setIfInBounds_toArray, List.set_cons_zero, List.set_cons_succ]
        go_wp2
        go_roundw
        case rel => exact ⟨j, by omega, rfl, by rw [← HE.out.1 rfl]; exact hE5.sub (List.sublist_cons_self _ _)⟩
        case measure => simp [intOf]
end Go.Proofs.Ytobfgleckcpcpaa
