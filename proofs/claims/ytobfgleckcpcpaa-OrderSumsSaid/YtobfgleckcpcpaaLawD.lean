/-
  Layer 5: 'OrderSums': the sum of any numbers is that of the document. No condition.
-/
import Derived.Test.YtobfgleckcpcpaaLawA
import Derived.Test.YtobfgleckcpcpaaFrame
import Derived.Deep.LoopGhost
namespace Go.Proofs.Ytobfgleckcpcpaa
open Go.ChangeShapes Go.WideShapes Go.ChangeAt Go.RowKit
set_option linter.unusedVariables false
set_option linter.unusedSimpArgs false

theorem sum_want (x n : Nat) (h : n < q) : (1 * x + val 256 (digs 256 32 n)) % q = (n + x) % q := by
  rw [val_digs, Nat.mod_eq_of_lt (Nat.lt_trans h (by decide)), Nat.one_mul, Nat.add_comm]
theorem sum_zero : digs 256 32 (sumQ []) = List.replicate 32 0 := by decide

set_option maxHeartbeats 2000000 in
theorem orderSums_walk {rows : List (List Nat)} {v : Value} {w : World} (h : RdRows rows v w) (hr : ∀ r ∈ rows, IsB32 r) (hn : rows.length ≤ maxLen) :
    Gives 6 #[v] w (.bool true) := by
  unfold maxLen at hn
  have Hr := Lib.hid hr
  clear hr
  obtain ⟨p, cap, rfl⟩ := h.len
  have Hh := Lib.hid h
  clear h
  by_cases h40 : 40 < rows.length
  · have h0 := Nat.zero_le rows.length
    have hE0 := Env.nil w
    go_enter Try.func6, Try.ntmps6
    repeat ((fail_if_success (with_reducible show wpList _ _ _ (List.cons _ _) _ _)); (fail_if_success (with_reducible show Code.wp _ (Code.region _ _ true) _ _ _)); go_step)
    refine wl_step (st_val rfl (v_moveC (.inr rfl)) ?_)
    simp only [Act.put, List.setIfInBounds_toArray, List.set_cons_zero, List.set_cons_succ]
    repeat ((fail_if_success (with_reducible show wpList _ _ _ (List.cons _ _) _ _)); (fail_if_success (with_reducible show Code.wp _ (Code.region _ _ true) _ _ _)); go_step)
    refine wl_step (st_val rfl (v_moveT (.inl rfl) rfl) ?_)
    simp only [Act.put, List.setIfInBounds_toArray, List.set_cons_zero, List.set_cons_succ]
    refine wl_step (st_val rfl (v_len rfl rfl Try.underlying31 (by omega)) ?_)
    simp only [Act.put, List.setIfInBounds_toArray, List.set_cons_zero, List.set_cons_succ]
    refine wl_step (st_val rfl (v_gtr (n := 40) rfl rfl rfl) ?_)
    simp only [Act.put, List.setIfInBounds_toArray, List.set_cons_zero, List.set_cons_succ]
    repeat ((fail_if_success (with_reducible show wpList _ _ _ (List.cons _ _) _ _)); (fail_if_success (with_reducible show Code.wp _ (Code.region _ _ true) _ _ _)); go_step)
    refine wl_step (st_gives hE0 rfl (run_call rfl Try.call10) (awake_any _) ?_)
    intro w1 hb1 hE1
    clear hE0
    simp only [Act.put, List.setIfInBounds_toArray, List.set_cons_zero, List.set_cons_succ]
    refine wl_step (st_val rfl (v_moveT (.inr rfl) rfl) ?_)
    simp only [Act.put, List.setIfInBounds_toArray, List.set_cons_zero, List.set_cons_succ]
    repeat ((fail_if_success (with_reducible show wpList _ _ _ (List.cons _ _) _ _)); (fail_if_success (with_reducible show Code.wp _ (Code.region _ _ true) _ _ _)); go_step)
    go_returns
    exact ⟨rfl, hE1.below⟩
  · have h0 := Nat.zero_le rows.length
    have hE0 := Env.nil w
    go_enter Try.func6, Try.ntmps6
    repeat ((fail_if_success (with_reducible show wpList _ _ _ (List.cons _ _) _ _)); (fail_if_success (with_reducible show Code.wp _ (Code.region _ _ true) _ _ _)); go_step)
    refine wl_step (st_val rfl (v_moveC (.inr rfl)) ?_)
    simp only [Act.put, List.setIfInBounds_toArray, List.set_cons_zero, List.set_cons_succ]
    repeat ((fail_if_success (with_reducible show wpList _ _ _ (List.cons _ _) _ _)); (fail_if_success (with_reducible show Code.wp _ (Code.region _ _ true) _ _ _)); go_step)
    refine wl_step (st_val rfl (v_moveT (.inl rfl) rfl) ?_)
    simp only [Act.put, List.setIfInBounds_toArray, List.set_cons_zero, List.set_cons_succ]
    refine wl_step (st_val rfl (v_len rfl rfl Try.underlying31 (by omega)) ?_)
    simp only [Act.put, List.setIfInBounds_toArray, List.set_cons_zero, List.set_cons_succ]
    refine wl_step (st_val rfl (v_gtr (n := 40) rfl rfl rfl) ?_)
    simp only [Act.put, List.setIfInBounds_toArray, List.set_cons_zero, List.set_cons_succ]
    repeat ((fail_if_success (with_reducible show wpList _ _ _ (List.cons _ _) _ _)); (fail_if_success (with_reducible show Code.wp _ (Code.region _ _ true) _ _ _)); go_step)
    refine wl_step (st_alloc (zs := ints .u8 (List.replicate 32 0)) hE0 rfl rfl (fun w => by kernel_rfl) ?_)
    intro g0 w1 hb1 hE1
    clear hE0
    simp only [Act.put, List.setIfInBounds_toArray, List.set_cons_zero, List.set_cons_succ]
    repeat ((fail_if_success (with_reducible show wpList _ _ _ (List.cons _ _) _ _)); (fail_if_success (with_reducible show Code.wp _ (Code.region _ _ true) _ _ _)); go_step)
    refine wl_step (st_val rfl (v_moveC (.inr rfl)) ?_)
    simp only [Act.put, List.setIfInBounds_toArray, List.set_cons_zero, List.set_cons_succ]
    go_wp2
    go_loopw [4] (fun i wr => ∃ j : Nat, j ≤ rows.length ∧ i = .int .i64 j ∧ Env w [⟨g0, 22, ints .u8 (digs 256 32 (sumQ (rows.take j)))⟩] wr) (fun i _ => rows.length - (intOf i).toNat)
    case atStart => exact ⟨0, Nat.zero_le _, rfl, by rw [List.take_zero, sum_zero]; exact hE1⟩
    case round =>
      clear hE1
      obtain ⟨j, hj, rfl, hE0⟩ := hrel
      by_cases hjn : j < rows.length
      · obtain ⟨hl, hd⟩ : IsB32 rows[j] := Hr.out _ (List.getElem_mem hjn)
        obtain ⟨b, off, rfl, hrow⟩ : ∃ b off, p = some ⟨b, off, none⟩ ∧ w.rangeAt b (off + j * 32) (ints .u8 rows[j]).toList := by
          rcases Hh.out with ⟨-, h⟩ | ⟨b, off, cap', h1, h2⟩
          · rw [h] at hjn; simp at hjn
          · injection h1 with h1
            exact ⟨b, off, h1, h2 j hjn⟩
        have Hrow := Lib.hid hrow
        clear hrow
        have hNq := sumQ_lt (rows.take j)
        have hst := sumQ_take hjn
        obtain ⟨r, hre⟩ : ∃ r, r = rows[j] := ⟨_, rfl⟩
        rw [← hre] at hl hd Hrow hst
        have hM : ∀ w, Gives 9 #[.agg (ints .u8 (small32 1)), .agg (ints .u8 r), .agg (ints .u8 (digs 256 32 (sumQ (rows.take j))))] w (.agg (ints .u8 (digs 256 32 (sumQ (rows.take (j + 1)))))) := fun w => by
          have h := rMulAdd_any (small32 1) r (digs 256 32 (sumQ (rows.take j))) rfl hl (isB32_digs _).1 (small32_ok (by decide)).2 hd (isB32_digs _).2 w
          rwa [val_small32, sum_want _ _ hNq, ← hst] at h
        clear hst hre hNq
        have HM := Lib.hid hM
        clear hM
        repeat ((fail_if_success (with_reducible show wpList _ _ _ (List.cons _ _) _ _)); (fail_if_success (with_reducible show Code.wp _ (Code.region _ _ true) _ _ _)); go_step)
        refine wl_step (st_val rfl (v_moveT (.inl rfl) rfl) ?_)
        simp only [Act.put, List.setIfInBounds_toArray, List.set_cons_zero, List.set_cons_succ]
        refine wl_step (st_val rfl (v_moveT (.inl rfl) rfl) ?_)
        simp only [Act.put, List.setIfInBounds_toArray, List.set_cons_zero, List.set_cons_succ]
        refine wl_step (st_val rfl (v_len rfl rfl Try.underlying31 (by omega)) ?_)
        simp only [Act.put, List.setIfInBounds_toArray, List.set_cons_zero, List.set_cons_succ]
        refine wl_step (st_val rfl (v_lss rfl rfl rfl) ?_)
        simp only [Act.put, List.setIfInBounds_toArray, List.set_cons_zero, List.set_cons_succ]
        repeat ((fail_if_success (with_reducible show wpList _ _ _ (List.cons _ _) _ _)); (fail_if_success (with_reducible show Code.wp _ (Code.region _ _ true) _ _ _)); go_step)
        refine wp_region_B (n := 8) 7 (by kernel_rfl) rfl hE0 ?_
        intro w1 hb1 hE1
        clear hE0
        refine wpB_take (i := 0) (by kernel_rfl) rfl (by kernel_rfl) (fun _ _ _ h => h) rfl (v_built (l := small32 1) rfl (fun w => by kernel_rfl)) ?_
        simp only [Act.put, List.setIfInBounds_toArray, List.set_cons_zero, List.set_cons_succ]
        refine wpB_take (i := 1) (by kernel_rfl) rfl (by kernel_rfl) (fun _ _ _ h => h) rfl (v_moveT (.inl rfl) rfl) ?_
        simp only [Act.put, List.setIfInBounds_toArray, List.set_cons_zero, List.set_cons_succ]
        refine wpB_take (i := 2) (by kernel_rfl) rfl (by kernel_rfl) (fun _ _ _ h => h) rfl (v_moveT (.inl rfl) rfl) ?_
        simp only [Act.put, List.setIfInBounds_toArray, List.set_cons_zero, List.set_cons_succ]
        refine wpB_take (i := 3) (by kernel_rfl) rfl (by kernel_rfl) (fun _ _ _ h => h) rfl (v_indexSs (s := 32) rfl rfl rfl Try.underlying31 (by kernel_rfl) hjn) ?_
        simp only [Act.put, List.setIfInBounds_toArray, List.set_cons_zero, List.set_cons_succ]
        refine wpB_take (i := 4) (by kernel_rfl) rfl (by kernel_rfl) (fun _ _ _ h => h) rfl (v_loadMid (cs := ints .u8 r) rfl rfl (fun w1 hb => range_below Hrow.out (hE1.below.trans (hb.mono hE1.below.size))) Try.underlying22 rfl (sz_of (n := 32) (by kernel_rfl) (by rw [ints_size, hl]))) ?_
        simp only [Act.put, List.setIfInBounds_toArray, List.set_cons_zero, List.set_cons_succ]
        refine wpB_take (i := 5) (by kernel_rfl) rfl (by kernel_rfl) (fun _ _ _ h => h) rfl (v_load (i := 0) hE1 rfl rfl rfl Try.underlying22 rfl (sz_of (n := 32) (by kernel_rfl) (by first | (simp only [ints_size, digs_length, List.length_replicate, List.length_cons, List.length_nil]; done) | (simp only [ints_size, digs_length, List.length_replicate, List.length_cons, List.length_nil, List.length_set, List.length_append]; omega) | rfl))) ?_
        simp only [Act.put, List.setIfInBounds_toArray, List.set_cons_zero, List.set_cons_succ]
        refine wpB_step (i := 6) (by kernel_rfl) rfl (st_gives hE1 rfl (run_call rfl Try.call9) (HM.out _) ?_)
        intro w2 hb2 hE2
        clear hE1
        refine ⟨fun _ => hb2, ?_⟩
        simp only [Act.put, List.setIfInBounds_toArray, List.set_cons_zero, List.set_cons_succ]
        refine wpB_step (i := 7) (by kernel_rfl) rfl (st_store (i := 0) hE2 rfl rfl rfl rfl rfl (sz_of (n := 32) (by kernel_rfl) (by first | (simp only [ints_size, digs_length, List.length_replicate, List.length_cons, List.length_nil]; done) | (simp only [ints_size, digs_length, List.length_replicate, List.length_cons, List.length_nil, List.length_set, List.length_append]; omega) | rfl)) (by first | (simp only [ints_size, digs_length, List.length_replicate, List.length_cons, List.length_nil]; done) | (simp only [ints_size, digs_length, List.length_replicate, List.length_cons, List.length_nil, List.length_set, List.length_append]; omega) | rfl) (by first | exact ints_one _ _ | decide | simp [*]) ?_)
        intro w3 hE3
        clear hE2
        simp only [List.set_cons_zero, List.set_cons_succ] at hE3
        refine ⟨fun h => absurd h (by decide), ?_⟩
        simp only [Act.put, List.setIfInBounds_toArray, List.set_cons_zero, List.set_cons_succ]
        refine wpB_done (by kernel_rfl) ?_ _
        repeat ((fail_if_success (with_reducible show wpList _ _ _ (List.cons _ _) _ _)); (fail_if_success (with_reducible show Code.wp _ (Code.region _ _ true) _ _ _)); go_step)
        refine wl_step (st_val rfl (v_moveT (.inl rfl) rfl) ?_)
        simp only [Act.put, List.setIfInBounds_toArray, List.set_cons_zero, List.set_cons_succ]
        refine wl_step (st_val rfl (v_add (n := 1) rfl rfl rfl (w_i64 (by omega))) ?_)
        simp only [Act.put, List.setIfInBounds_toArray, List.set_cons_zero, List.set_cons_succ]
        refine wl_step (st_val rfl (v_moveT (.inr rfl) rfl) ?_)
        simp only [Act.put, List.setIfInBounds_toArray, List.set_cons_zero, List.set_cons_succ]
        go_wp2
        go_roundw
        case rel => exact ⟨j + 1, by omega, rfl, hE3⟩
        case measure => simp [intOf]; omega
      · have hj' : j = rows.length := by omega
        subst hj'
        rw [List.take_length] at hE0
        repeat ((fail_if_success (with_reducible show wpList _ _ _ (List.cons _ _) _ _)); (fail_if_success (with_reducible show Code.wp _ (Code.region _ _ true) _ _ _)); go_step)
        refine wl_step (st_val rfl (v_moveT (.inl rfl) rfl) ?_)
        simp only [Act.put, List.setIfInBounds_toArray, List.set_cons_zero, List.set_cons_succ]
        refine wl_step (st_val rfl (v_moveT (.inl rfl) rfl) ?_)
        simp only [Act.put, List.setIfInBounds_toArray, List.set_cons_zero, List.set_cons_succ]
        refine wl_step (st_val rfl (v_len rfl rfl Try.underlying31 (by omega)) ?_)
        simp only [Act.put, List.setIfInBounds_toArray, List.set_cons_zero, List.set_cons_succ]
        refine wl_step (st_val rfl (v_lss rfl rfl rfl) ?_)
        simp only [Act.put, List.setIfInBounds_toArray, List.set_cons_zero, List.set_cons_succ]
        repeat ((fail_if_success (with_reducible show wpList _ _ _ (List.cons _ _) _ _)); (fail_if_success (with_reducible show Code.wp _ (Code.region _ _ true) _ _ _)); go_step)
        refine wp_region_B (n := 8) 7 (by kernel_rfl) rfl hE0 ?_
        intro w1 hb1 hE1
        clear hE0
        refine wpB_take (i := 0) (by kernel_rfl) rfl (by kernel_rfl) (fun _ _ _ h => h) rfl (v_moveT (.inl rfl) rfl) ?_
        simp only [Act.put, List.setIfInBounds_toArray, List.set_cons_zero, List.set_cons_succ]
        refine wpB_take (i := 2) (by kernel_rfl) rfl (by kernel_rfl) (fun _ _ _ h => h) rfl (v_load (i := 0) hE1 rfl rfl rfl Try.underlying22 rfl (sz_of (n := 32) (by kernel_rfl) (by first | (simp only [ints_size, digs_length, List.length_replicate, List.length_cons, List.length_nil]; done) | (simp only [ints_size, digs_length, List.length_replicate, List.length_cons, List.length_nil, List.length_set, List.length_append]; omega) | rfl))) ?_
        simp only [Act.put, List.setIfInBounds_toArray, List.set_cons_zero, List.set_cons_succ]
        refine wpB_step (i := 1) (by kernel_rfl) rfl (st_gives hE1 rfl (run_call rfl Try.call16) (Sum_any (Hh.out.below hE1.below) Hr.out (by omega)) ?_)
        intro w2 hb2 hE2
        clear hE1
        refine ⟨fun _ => hb2, ?_⟩
        simp only [Act.put, List.setIfInBounds_toArray, List.set_cons_zero, List.set_cons_succ]
        refine wpB_take (i := 3) (by kernel_rfl) rfl (by kernel_rfl) (fun _ _ _ h => h) rfl (v_eq32s rfl rfl rfl (isB32_digs _)) ?_
        simp only [Act.put, List.setIfInBounds_toArray, List.set_cons_zero, List.set_cons_succ]
        refine wpB_take (i := 4) (by kernel_rfl) rfl (by kernel_rfl) (fun _ _ _ h => h) rfl (v_moveT (.inl rfl) rfl) ?_
        simp only [Act.put, List.setIfInBounds_toArray, List.set_cons_zero, List.set_cons_succ]
        refine wpB_step (i := 5) (by kernel_rfl) rfl (st_gives hE2 rfl (run_call rfl Try.call10) (awake_any _) ?_)
        intro w3 hb3 hE3
        clear hE2
        refine ⟨fun _ => hb3, ?_⟩
        simp only [Act.put, List.setIfInBounds_toArray, List.set_cons_zero, List.set_cons_succ]
        refine wpB_take (i := 6) (by kernel_rfl) rfl (by kernel_rfl) (fun _ _ _ h => h) rfl (v_and rfl rfl (fun _ => rfl)) ?_
        simp only [Act.put, List.setIfInBounds_toArray, List.set_cons_zero, List.set_cons_succ]
        refine wpB_step (i := 7) (by kernel_rfl) rfl (st_val rfl (v_moveT (.inr rfl) rfl) ?_)
        refine ⟨fun _ => Below.refl _ _, ?_⟩
        simp only [Act.put, List.setIfInBounds_toArray, List.set_cons_zero, List.set_cons_succ]
        refine wpB_done (by kernel_rfl) ?_ _
        repeat ((fail_if_success (with_reducible show wpList _ _ _ (List.cons _ _) _ _)); (fail_if_success (with_reducible show Code.wp _ (Code.region _ _ true) _ _ _)); go_step)
        go_returns
        exact ⟨rfl, hE3.below⟩
set_option maxRecDepth 100000 in
theorem orderSums_lifted (os : Os) (started : os.Started) (H : Type) (enc : TypeId × Value → H) :
    ReturnsInHanded {} Try.checked os 6 .any (Rows.orderSumsSpec.pre6 enc Try.prog Try.f6 Rows.orderSumsRow.domain false) (Rows.orderSumsSpec.post enc Try.prog Try.f6 false true false false) := by
  refine returnsInHanded_of_change (C := Try.checked) own started (by kernel_rfl) Try.func6
    (ChangeSpec.witness6 (enc := enc) (C := Try.checked) false ⟨#[], #[.slice none 0 0], []⟩ 8 (by kernel_rfl) (by kernel_rfl) (by kernel_rfl) (by kernel_rfl)) ?_
  intro W base args ds gs before hval0 hW hcnd _
  have hval : ∀ (j : Nat) t v, Try.f6.params[j]? = some t → args[j]? = some v → Value.okWide Try.prog W .any base t v := hval0
  have hW' := hW
  obtain ⟨p, q, hA0, hV, rfl, hfz, hnd⟩ := hW
  have hA : DataW.TrodAll enc Try.prog W 0 (fun _ => true) true Try.f6.params.toList args.toList ds p := hA0
  rw [Try.params6] at hA hval
  obtain ⟨v0, vs0, d0, ds0, p0, q0, hargs, rfl, rfl, h0, r0⟩ := trodAll_cons hA
  obtain ⟨rfl, rfl, rfl⟩ := trodAll_nil r0
  obtain rfl : args = #[v0] := by cases args; simp_all
  obtain ⟨rfl, rfl⟩ := trodVars_none hV
  have k0 := h0
  have lt0 : ∀ x ∈ p0, x.block < W.heap.size := by obtain ⟨m, hm⟩ := k0; exact DataW.trod_lt m _ _ _ hm
  obtain ⟨rows, hrd, hrb, hrn⟩ := open_rows Try.underlying31 Try.underlying22 Try.underlying5 (by kernel_rfl) (by kernel_rfl) (hval 0 31 v0 rfl rfl) h0
  clear hA0 hval0
  refine (orderSums_walk hrd hrb hrn).mono fun e W' ⟨he, bel⟩ => ?_
  subst he
  exact ⟨_, rfl, _, _, _, [], _, [], hW', trodAll_mk1 (shut_bool Try.underlying4 _), (trodAll_cons_mk (Below.trod laidOut (by kernel_rfl) (of_decide_eq_true (by kernel_rfl)) k0 bel lt0) trodAll_mk0), rfl, bel.frame _, fun h => by cases h⟩

theorem orderSums_over : Rows.orderSumsRow.holds Try.pinned (OpenSpec.ofChange Rows.orderSumsSpec) :=
  OpenClaim.holds_of_wide 6 Try.f6 rfl rfl rfl rfl rfl rfl rfl ⟨rfl, rfl, rfl, rfl, rfl⟩ rfl rfl rfl rfl rfl (by kernel_rfl) Try.func6 (by kernel_rfl)
    (of_decide_eq_true (by kernel_rfl)) (by unfold Func.isWrapper; first | (rw [if_pos (by decide +kernel)]; kernel_rfl) | (rw [if_neg (by decide +kernel)]; exact ⟨rfl, rfl⟩))
    (fun os started H enc _ => orderSums_lifted os started H enc)

theorem orderSums_holds : Rows.OrderSumsSaid := orderSums_over

#print axioms orderSums_holds
end Go.Proofs.Ytobfgleckcpcpaa
