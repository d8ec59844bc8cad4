/-
  Layer 5: the sum of numbers.
-/
import Derived.Test.YtobfgleckcpcpaaOrdG
import Derived.Test.YtobfgleckcpcpaaStep
import Derived.Deep.LoopGhost
namespace Go.Proofs.Ytobfgleckcpcpaa
open Go.RowKit
set_option linter.unusedVariables false
set_option linter.unusedSimpArgs false

/-- The sum of numbers, each told by its bytes. -/
def sumQ (rows : List (List Nat)) : Nat := rows.foldl (fun s r => (s + val 256 r) % q) 0
theorem sumQ_lt (rows : List (List Nat)) : sumQ rows < q := by
  unfold sumQ
  rcases rows.eq_nil_or_concat with rfl | ⟨l, x, rfl⟩
  · decide
  · simp only [List.concat_eq_append, List.foldl_append, List.foldl_cons, List.foldl_nil]
    exact Nat.mod_lt _ (by decide)
theorem sumQ_nil : digs 18446744073709551616 4 (sumQ []) = List.replicate 4 0 := by decide
theorem sumQ_take {rows : List (List Nat)} {j : Nat} (hj : j < rows.length) : sumQ (rows.take (j + 1)) = (sumQ (rows.take j) + val 256 rows[j]) % q := by
  unfold sumQ
  rw [List.take_succ_eq_append_getElem hj, List.foldl_append]
  rfl

set_option maxHeartbeats 2000000 in
theorem Sum_any {rows : List (List Nat)} {v : Value} {w : World} (h : RdRows rows v w) (hr : ∀ r ∈ rows, IsB32 r) (hn : rows.length < 9223372036854775808) :
    Gives 16 #[v] w (.agg (ints .u8 (digs 256 32 (sumQ rows)))) := by
  have Hr := Lib.hid hr
  clear hr
  obtain ⟨p, cap, rfl⟩ := h.len
  have Hh := Lib.hid h
  clear h
  have hE0 := Env.nil w
  go_enter Try.func16, Try.ntmps16
  repeat ((fail_if_success (with_reducible show wpList _ _ _ (List.cons _ _) _ _)); (fail_if_success (with_reducible show Code.wp _ (Code.region _ _ true) _ _ _)); go_step)
  refine wl_step (st_alloc (zs := ints .u8 (List.replicate 32 0)) hE0 rfl rfl (fun w => by kernel_rfl) ?_)
  intro g0 w1 hb1 hE1
  clear hE0
  simp only [Act.put, List.setIfInBounds_toArray, List.set_cons_zero, List.set_cons_succ]
  repeat ((fail_if_success (with_reducible show wpList _ _ _ (List.cons _ _) _ _)); (fail_if_success (with_reducible show Code.wp _ (Code.region _ _ true) _ _ _)); go_step)
  refine wl_step (st_alloc (zs := ints .u64 (List.replicate 4 0)) hE1 rfl rfl (fun w => by kernel_rfl) ?_)
  intro g1 w2 hb2 hE2
  clear hE1
  simp only [Act.put, List.setIfInBounds_toArray, List.set_cons_zero, List.set_cons_succ]
  repeat ((fail_if_success (with_reducible show wpList _ _ _ (List.cons _ _) _ _)); (fail_if_success (with_reducible show Code.wp _ (Code.region _ _ true) _ _ _)); go_step)
  refine wl_step (st_val rfl (v_moveT (.inl rfl) rfl) ?_)
  simp only [Act.put, List.setIfInBounds_toArray, List.set_cons_zero, List.set_cons_succ]
  refine wl_step (st_val rfl (v_len rfl rfl Try.underlying31 (by omega)) ?_)
  simp only [Act.put, List.setIfInBounds_toArray, List.set_cons_zero, List.set_cons_succ]
  refine wl_step (st_val rfl (v_moveC (.inl rfl)) ?_)
  simp only [Act.put, List.setIfInBounds_toArray, List.set_cons_zero, List.set_cons_succ]
  go_wp2
  go_loopw [8] (fun i wr => ∃ j : Nat, j ≤ rows.length ∧ i = .int .i64 j ∧ Env w [⟨g1, 37, ints .u64 (digs 18446744073709551616 4 (sumQ (rows.take j)))⟩, ⟨g0, 22, ints .u8 (List.replicate 32 0)⟩] wr) (fun i _ => rows.length - (intOf i).toNat)
  case atStart => exact ⟨0, Nat.zero_le _, rfl, by rw [List.take_zero, sumQ_nil]; exact hE2⟩
  case round =>
    clear hE2
    obtain ⟨j, hj, rfl, hE0⟩ := hrel
    by_cases hjn : j < rows.length
    · obtain ⟨hl, hd⟩ : IsB32 rows[j] := Hr.out _ (List.getElem_mem hjn)
      obtain ⟨b, off, rfl, hrow⟩ : ∃ b off, p = some ⟨b, off, none⟩ ∧ w.rangeAt b (off + j * 32) (ints .u8 rows[j]).toList := by
        rcases Hh.out with ⟨-, h⟩ | ⟨b, off, cap', h1, h2⟩
        · rw [h] at hjn; simp at hjn
        · injection h1 with h1
          exact ⟨b, off, h1, h2 j hjn⟩
      have Hrow := Lib.hid hrow
      clear hrow
      have hNq := sumQ_lt (rows.take j)
      have hst := sumQ_take hjn
      obtain ⟨r, hre⟩ : ∃ r, r = rows[j] := ⟨_, rfl⟩
      rw [← hre] at hl hd Hrow hst
      have hxq : val 256 r % q < q := mod_q _
      have hplus : ∀ w, Gives 20 #[num (sumQ (rows.take j)), num (val 256 r % q)] w (num (sumQ (rows.take (j + 1)))) := fun w => by
        have := plus_any (sumQ (rows.take j)) (val 256 r % q) hNq hxq w
        rwa [Nat.add_mod_mod, ← hst] at this
      clear hst hre hNq hxq
      have Hplus := Lib.hid hplus
      clear hplus
      repeat ((fail_if_success (with_reducible show wpList _ _ _ (List.cons _ _) _ _)); (fail_if_success (with_reducible show Code.wp _ (Code.region _ _ true) _ _ _)); go_step)
      refine wl_step (st_val rfl (v_lss rfl rfl rfl) ?_)
      simp only [Act.put, List.setIfInBounds_toArray, List.set_cons_zero, List.set_cons_succ]
      repeat ((fail_if_success (with_reducible show wpList _ _ _ (List.cons _ _) _ _)); (fail_if_success (with_reducible show Code.wp _ (Code.region _ _ true) _ _ _)); go_step)
      refine wl_step (st_val rfl (v_indexSs (s := 32) rfl rfl rfl Try.underlying31 (by kernel_rfl) hjn) ?_)
      simp only [Act.put, List.setIfInBounds_toArray, List.set_cons_zero, List.set_cons_succ]
      refine wl_step (st_val rfl (v_loadMid (cs := ints .u8 r) rfl rfl (fun w1 hb => range_below Hrow.out (hE0.below.trans (hb.mono hE0.below.size))) Try.underlying22 rfl (sz_of (n := 32) (by kernel_rfl) (by rw [ints_size, hl]))) ?_)
      simp only [Act.put, List.setIfInBounds_toArray, List.set_cons_zero, List.set_cons_succ]
      refine wl_step (st_alloc (zs := ints .u8 (List.replicate 32 0)) hE0 rfl rfl (fun w => by kernel_rfl) ?_)
      intro g2 w1 hb1 hE1
      clear hE0
      simp only [Act.put, List.setIfInBounds_toArray, List.set_cons_zero, List.set_cons_succ]
      refine wl_step (st_store (i := 0) hE1 rfl rfl rfl rfl rfl (sz_of (n := 32) (by kernel_rfl) (by first | (simp only [ints_size, digs_length, List.length_replicate, List.length_cons, List.length_nil]; done) | (simp only [ints_size, digs_length, List.length_replicate, List.length_cons, List.length_nil, List.length_set, List.length_append]; omega) | rfl)) (by first | (simp only [ints_size, digs_length, List.length_replicate, List.length_cons, List.length_nil]; done) | (simp only [ints_size, digs_length, List.length_replicate, List.length_cons, List.length_nil, List.length_set, List.length_append]; omega) | rfl) (by first | exact ints_one _ _ | decide | simp [*]) ?_)
      intro w2 hE2
      clear hE1
      simp only [List.set_cons_zero, List.set_cons_succ] at hE2
      simp only [Act.put, List.setIfInBounds_toArray, List.set_cons_zero, List.set_cons_succ]
      repeat ((fail_if_success (with_reducible show wpList _ _ _ (List.cons _ _) _ _)); (fail_if_success (with_reducible show Code.wp _ (Code.region _ _ true) _ _ _)); go_step)
      refine wp_region_B (n := 5) 4 (by kernel_rfl) rfl hE2 ?_
      intro w3 hb3 hE3
      clear hE2
      refine wpB_take (i := 0) (by kernel_rfl) rfl (by kernel_rfl) (fun _ _ _ h => h) rfl (v_load (i := 1) hE3 rfl rfl rfl Try.underlying37 rfl (sz_of (n := 4) (by kernel_rfl) (by first | (simp only [ints_size, digs_length, List.length_replicate, List.length_cons, List.length_nil]; done) | (simp only [ints_size, digs_length, List.length_replicate, List.length_cons, List.length_nil, List.length_set, List.length_append]; omega) | rfl))) ?_
      simp only [Act.put, List.setIfInBounds_toArray, List.set_cons_zero, List.set_cons_succ]
      refine wpB_take (i := 1) (by kernel_rfl) rfl (by kernel_rfl) (fun _ _ _ h => h) rfl (v_load (i := 0) hE3 rfl rfl rfl Try.underlying22 rfl (sz_of (n := 32) (by kernel_rfl) (by first | (simp only [ints_size, digs_length, List.length_replicate, List.length_cons, List.length_nil]; done) | (simp only [ints_size, digs_length, List.length_replicate, List.length_cons, List.length_nil, List.length_set, List.length_append]; omega) | rfl))) ?_
      simp only [Act.put, List.setIfInBounds_toArray, List.set_cons_zero, List.set_cons_succ]
      refine wpB_step (i := 2) (by kernel_rfl) rfl (st_gives hE3 rfl (run_call rfl Try.call17) (small_any r hl hd _) ?_)
      intro w4 hb4 hE4
      clear hE3
      refine ⟨fun _ => hb4, ?_⟩
      simp only [Act.put, List.setIfInBounds_toArray, List.set_cons_zero, List.set_cons_succ]
      refine wpB_step (i := 3) (by kernel_rfl) rfl (st_gives hE4 rfl (run_call rfl Try.call20) (Hplus.out _) ?_)
      intro w5 hb5 hE5
      clear hE4
      refine ⟨fun _ => hb5, ?_⟩
      simp only [Act.put, List.setIfInBounds_toArray, List.set_cons_zero, List.set_cons_succ]
      refine wpB_step (i := 4) (by kernel_rfl) rfl (st_store (i := 1) hE5 rfl rfl rfl rfl rfl (sz_of (n := 4) (by kernel_rfl) (by first | (simp only [ints_size, digs_length, List.length_replicate, List.length_cons, List.length_nil]; done) | (simp only [ints_size, digs_length, List.length_replicate, List.length_cons, List.length_nil, List.length_set, List.length_append]; omega) | rfl)) (by first | (simp only [ints_size, digs_length, List.length_replicate, List.length_cons, List.length_nil]; done) | (simp only [ints_size, digs_length, List.length_replicate, List.length_cons, List.length_nil, List.length_set, List.length_append]; omega) | rfl) (by first | exact ints_one _ _ | decide | simp [*]) ?_)
      intro w6 hE6
      clear hE5
      simp only [List.set_cons_zero, List.set_cons_succ] at hE6
      refine ⟨fun h => absurd h (by decide), ?_⟩
      simp only [Act.put, List.setIfInBounds_toArray, List.set_cons_zero, List.set_cons_succ]
      refine wpB_done (by kernel_rfl) ?_ _
      repeat ((fail_if_success (with_reducible show wpList _ _ _ (List.cons _ _) _ _)); (fail_if_success (with_reducible show Code.wp _ (Code.region _ _ true) _ _ _)); go_step)
      refine wl_step (st_val rfl (v_add (n := 1) rfl rfl rfl (w_i64 (by omega))) ?_)
      simp only [Act.put, List.setIfInBounds_toArray, List.set_cons_zero, List.set_cons_succ]
      refine wl_step (st_val rfl (v_moveT (.inl rfl) rfl) ?_)
      simp only [Act.put, List.setIfInBounds_toArray, List.set_cons_zero, List.set_cons_succ]
      go_wp2
      go_roundw
      case rel => exact ⟨j + 1, by omega, rfl, hE6.sub (List.sublist_cons_self _ _)⟩
      case measure => simp [intOf]; omega
    · have hj' : j = rows.length := by omega
      subst hj'
      rw [List.take_length] at hE0
      repeat ((fail_if_success (with_reducible show wpList _ _ _ (List.cons _ _) _ _)); (fail_if_success (with_reducible show Code.wp _ (Code.region _ _ true) _ _ _)); go_step)
      refine wl_step (st_val rfl (v_lss rfl rfl rfl) ?_)
      simp only [Act.put, List.setIfInBounds_toArray, List.set_cons_zero, List.set_cons_succ]
      repeat ((fail_if_success (with_reducible show wpList _ _ _ (List.cons _ _) _ _)); (fail_if_success (with_reducible show Code.wp _ (Code.region _ _ true) _ _ _)); go_step)
      refine wl_step (st_val rfl (v_load (i := 0) hE0 rfl rfl rfl Try.underlying37 rfl (sz_of (n := 4) (by kernel_rfl) (by first | (simp only [ints_size, digs_length, List.length_replicate, List.length_cons, List.length_nil]; done) | (simp only [ints_size, digs_length, List.length_replicate, List.length_cons, List.length_nil, List.length_set, List.length_append]; omega) | rfl))) ?_)
      simp only [Act.put, List.setIfInBounds_toArray, List.set_cons_zero, List.set_cons_succ]
      refine wl_step (st_gives hE0 rfl (run_call rfl Try.call21) (bytes_any (sumQ rows) (Nat.lt_trans (sumQ_lt _) (by decide)) _) ?_)
      intro w1 hb1 hE1
      clear hE0
      simp only [Act.put, List.setIfInBounds_toArray, List.set_cons_zero, List.set_cons_succ]
      refine wl_step (st_store (i := 1) hE1 rfl rfl rfl rfl rfl (sz_of (n := 32) (by kernel_rfl) (by first | (simp only [ints_size, digs_length, List.length_replicate, List.length_cons, List.length_nil]; done) | (simp only [ints_size, digs_length, List.length_replicate, List.length_cons, List.length_nil, List.length_set, List.length_append]; omega) | rfl)) (by first | (simp only [ints_size, digs_length, List.length_replicate, List.length_cons, List.length_nil]; done) | (simp only [ints_size, digs_length, List.length_replicate, List.length_cons, List.length_nil, List.length_set, List.length_append]; omega) | rfl) (by first | exact ints_one _ _ | decide | simp [*]) ?_)
      intro w2 hE2
      clear hE1
      simp only [List.set_cons_zero, List.set_cons_succ] at hE2
      simp only [Act.put, List.setIfInBounds_toArray, List.set_cons_zero, List.set_cons_succ]
      repeat ((fail_if_success (with_reducible show wpList _ _ _ (List.cons _ _) _ _)); (fail_if_success (with_reducible show Code.wp _ (Code.region _ _ true) _ _ _)); go_step)
      refine bodyPost_ret (results_cell_row rfl _ _ _ _ _ (0, 0) _ rfl (hE2.get (i := 1) rfl) Try.underlying22 rfl (sz_of (n := 32) (by kernel_rfl) (by first | (simp only [ints_size, digs_length, List.length_replicate, List.length_cons, List.length_nil]; done) | (simp only [ints_size, digs_length, List.length_replicate, List.length_cons, List.length_nil, List.length_set, List.length_append]; omega) | rfl))) rfl ⟨rfl, hE2.below⟩
end Go.Proofs.Ytobfgleckcpcpaa
