/-
  Layer 3: the sums of bytes that come in parts.
-/
import Derived.Test.YtndnmghlgcamfaaDoorDigK
import Derived.Test.YtndnmghlgcamfaaDoorOpn
namespace Go.Proofs.YtndnmghlgcamfaaDoor
open Go.RowKit
set_option maxRecDepth 100000
set_option linter.unusedVariables false
set_option linter.unusedSimpArgs false

set_option maxRecDepth 100000 in
set_option maxHeartbeats 8000000 in
theorem Sum256_any {w : World} {rows : List (List Nat)} {v : Value} (hv : RdSs .u8 rows v w) (dr : ∀ r ∈ rows, Digs 256 r) (hl : rows.flatten.length < 549755813888) (hn : rows.length < 9223372036854775808) :
    Gives 10 #[v] w (.agg (ints .u8 (sum256 rows.flatten))) := by
  obtain ⟨p, c, rfl, hc, -⟩ := id hv
  have Hv := Lib.hid hv
  have Hr := Lib.hid dr
  clear hv dr
  have hN0 : (scl k256.first (.slice none 0 0) 0).toArray = (scl (st256 (rows.take 0).flatten) (.slice none 0 0) (rows.take 0).flatten.length).toArray := by rw [List.take_zero]; rfl
  have HN0 := Lib.hid hN0
  clear hN0
  have hE0 := Env.nil w
  go_enter Tryd.func10, Tryd.ntmps10
  repeat ((fail_if_success (with_reducible show wpList _ _ _ (List.cons _ _) _ _)); (fail_if_success (with_reducible show Code.wp _ (Code.region _ _ true) _ _ _)); go_step)
  refine wl_step (st_alloc (zs := ints .u8 (List.replicate 32 0)) hE0 rfl rfl (fun w => by kernel_rfl) ?_)
  intro g0 w1 hb1 hE1
  clear hE0
  simp only [Act.put, List.setIfInBounds_toArray, List.set_cons_zero, List.set_cons_succ]
  repeat ((fail_if_success (with_reducible show wpList _ _ _ (List.cons _ _) _ _)); (fail_if_success (with_reducible show Code.wp _ (Code.region _ _ true) _ _ _)); go_step)
  refine wl_step (st_calls rfl (run_call rfl Tryd.call13) (New_any _) ?_)
  rintro _ w2 ⟨gN, rfl, hN⟩
  have hE2 := hE1.lift1 hN
  rw [HN0.out] at hE2
  refine ⟨_, rfl, ?_⟩
  clear hE1
  simp only [Act.put, List.setIfInBounds_toArray, List.set_cons_zero, List.set_cons_succ]
  refine wl_step (st_val rfl (v_moveT (.inr rfl) rfl) ?_)
  simp only [Act.put, List.setIfInBounds_toArray, List.set_cons_zero, List.set_cons_succ]
  repeat ((fail_if_success (with_reducible show wpList _ _ _ (List.cons _ _) _ _)); (fail_if_success (with_reducible show Code.wp _ (Code.region _ _ true) _ _ _)); go_step)
  refine wl_step (st_val rfl (v_moveT (.inl rfl) rfl) ?_)
  simp only [Act.put, List.setIfInBounds_toArray, List.set_cons_zero, List.set_cons_succ]
  refine wl_step (st_val rfl (v_len rfl rfl Tryd.underlying39 (by omega)) ?_)
  simp only [Act.put, List.setIfInBounds_toArray, List.set_cons_zero, List.set_cons_succ]
  refine wl_step (st_val rfl (v_moveC (.inl rfl)) ?_)
  simp only [Act.put, List.setIfInBounds_toArray, List.set_cons_zero, List.set_cons_succ]
  have hst : Env w ([] ++ ⟨gN, 60, (scl (st256 (rows.take 0).flatten) (.slice none 0 0) (rows.take 0).flatten.length).toArray⟩ :: [⟨g0, 32, ints .u8 (List.replicate 32 0)⟩]) w2 := hE2
  clear hE2
  go_wp2
  go_loopw [9] (fun i wr => ∃ (j : Nat) (u : Value) (bs : List Blk), j ≤ rows.length ∧ i = .int .i64 j ∧ Hid (Ow 5 (nats .u8 (restL 64 (rows.take j).flatten)) u bs) ∧ Env w (bs ++ ⟨gN, 60, (scl (st256 (rows.take j).flatten) u (rows.take j).flatten.length).toArray⟩ :: [⟨g0, 32, ints .u8 (List.replicate 32 0)⟩]) wr) (fun i _ => rows.length - (intOf i).toNat)
  case atStart => exact ⟨0, _, [], Nat.zero_le _, rfl, Lib.hid (by rw [List.take_zero, List.flatten_nil, restL_nil]; exact Ow.nil _), hst⟩
  case round =>
    clear hst
    obtain ⟨j, u, bs, hj, rfl, hO, hE0⟩ := hrel
    by_cases hjr : j < rows.length
    · obtain ⟨b, off, x, rfl, hcell, hx⟩ := Hv.out.at hjr
      have hfl := flat_le rows (j + 1)
      have hft := flat_take hjr
      have hsz : (rows.take j).flatten.length + rows[j].length < 1099511627776 := by
        rw [← List.length_append, hft]
        omega
      have dM := flat_take_Digs Hr.out j
      have dR := Hr.out _ (List.getElem_mem hjr)
      have HF := Lib.hid hft
      have HC := Lib.hid hcell
      have HX := Lib.hid hx
      have DM := Lib.hid dM
      have DR := Lib.hid dR
      have hlen : (rows.take j).flatten.length + rows[j].length = (rows.take (j + 1)).flatten.length := by rw [← hft, List.length_append]
      have HL := Lib.hid hlen
      clear hcell hx hft dM dR hlen
      repeat ((fail_if_success (with_reducible show wpList _ _ _ (List.cons _ _) _ _)); (fail_if_success (with_reducible show Code.wp _ (Code.region _ _ true) _ _ _)); go_step)
      refine wl_step (st_val rfl (v_lss rfl rfl rfl) ?_)
      simp only [Act.put, List.setIfInBounds_toArray, List.set_cons_zero, List.set_cons_succ]
      repeat ((fail_if_success (with_reducible show wpList _ _ _ (List.cons _ _) _ _)); (fail_if_success (with_reducible show Code.wp _ (Code.region _ _ true) _ _ _)); (fail_if_success (with_reducible show Code.wp _ (Code.cond _ _ _) _ _ _)); go_step)
      refine wp_cond_true (by first | rfl | exact congrArg Value.bool (decide_eq_true (by omega))) ?_
      skip
      repeat ((fail_if_success (with_reducible show wpList _ _ _ (List.cons _ _) _ _)); (fail_if_success (with_reducible show Code.wp _ (Code.region _ _ true) _ _ _)); go_step)
      refine wl_step (st_val rfl (v_indexS rfl rfl rfl Tryd.underlying39 (by kernel_rfl) hjr) ?_)
      simp only [Act.put, List.setIfInBounds_toArray, List.set_cons_zero, List.set_cons_succ]
      refine wl_step (st_val rfl (v_cell rfl rfl Tryd.underlying22 rfl (fun w1 hb => HC.out w1 (hE0.below.trans (hb.mono hE0.below.size)))) ?_)
      simp only [Act.put, List.setIfInBounds_toArray, List.set_cons_zero, List.set_cons_succ]
      refine wl_step (st_val rfl (v_moveT (.inr rfl) rfl) ?_)
      simp only [Act.put, List.setIfInBounds_toArray, List.set_cons_zero, List.set_cons_succ]
      repeat ((fail_if_success (with_reducible show wpList _ _ _ (List.cons _ _) _ _)); (fail_if_success (with_reducible show Code.wp _ (Code.region _ _ true) _ _ _)); go_step)
      refine wl_step (st_val rfl (v_moveT (.inl rfl) rfl) ?_)
      simp only [Act.put, List.setIfInBounds_toArray, List.set_cons_zero, List.set_cons_succ]
      refine wl_step (st_val rfl (v_moveT (.inl rfl) rfl) ?_)
      simp only [Act.put, List.setIfInBounds_toArray, List.set_cons_zero, List.set_cons_succ]
      refine wl_step (st_calls rfl (run_call rfl Tryd.call14) (Write_any hO.out hE0 (fun w' h => HX.out.below h.below) DM.out DR.out hsz) ?_)
      rintro _ w1 ⟨rfl, u2, bs2, ho2, hE1⟩
      rw [HF.out, HL.out] at hE1
      rw [HF.out] at ho2
      refine ⟨_, rfl, ?_⟩
      clear hE0
      simp only [Act.put, List.setIfInBounds_toArray, List.set_cons_zero, List.set_cons_succ]
      repeat ((fail_if_success (with_reducible show wpList _ _ _ (List.cons _ _) _ _)); (fail_if_success (with_reducible show Code.wp _ (Code.region _ _ true) _ _ _)); go_step)
      refine wl_step (st_val rfl (v_add (n := 1) rfl rfl rfl (w_i64 (by omega))) ?_)
      simp only [Act.put, List.setIfInBounds_toArray, List.set_cons_zero, List.set_cons_succ]
      refine wl_step (st_val rfl (v_moveT (.inl rfl) rfl) ?_)
      simp only [Act.put, List.setIfInBounds_toArray, List.set_cons_zero, List.set_cons_succ]
      go_wp2
      go_roundw
      case rel => exact ⟨j + 1, u2, bs2, by omega, rfl, Lib.hid ho2, hE1⟩
      case measure => simp [intOf]; omega
    · have hj' : j = rows.length := by omega
      subst hj'
      rw [List.take_length] at hO hE0
      have hE1 := (Env.mid.1 hE0).sub (List.Sublist.cons_cons _ (List.sublist_append_right _ _))
      have hRd := (hO.out.sl hE0).rdS
      have HRd := Lib.hid (fun w' (h : Below wr.heap.size wr w') => hRd.below h)
      have DM := Lib.hid (flat_Digs Hr.out)
      clear hRd hE0
      have hs32 := sum256_len rows.flatten
      repeat ((fail_if_success (with_reducible show wpList _ _ _ (List.cons _ _) _ _)); (fail_if_success (with_reducible show Code.wp _ (Code.region _ _ true) _ _ _)); go_step)
      refine wl_step (st_val rfl (v_lss rfl rfl rfl) ?_)
      simp only [Act.put, List.setIfInBounds_toArray, List.set_cons_zero, List.set_cons_succ]
      repeat ((fail_if_success (with_reducible show wpList _ _ _ (List.cons _ _) _ _)); (fail_if_success (with_reducible show Code.wp _ (Code.region _ _ true) _ _ _)); (fail_if_success (with_reducible show Code.wp _ (Code.cond _ _ _) _ _ _)); go_step)
      refine wp_cond_false (by first | rfl | exact congrArg Value.bool (decide_eq_false (by omega))) ?_
      skip
      repeat ((fail_if_success (with_reducible show wpList _ _ _ (List.cons _ _) _ _)); (fail_if_success (with_reducible show Code.wp _ (Code.region _ _ true) _ _ _)); go_step)
      refine wl_step (st_val rfl (v_moveT (.inl rfl) rfl) ?_)
      simp only [Act.put, List.setIfInBounds_toArray, List.set_cons_zero, List.set_cons_succ]
      refine wl_step (st_gives hE1 rfl (run_call rfl Tryd.call15) (SSum_any (hE1.get (i := 0) rfl) (HRd.out _ (Below.refl _ _)) DM.out hl) ?_)
      intro w2 hb2 hE2
      clear hE1
      simp only [Act.put, List.setIfInBounds_toArray, List.set_cons_zero, List.set_cons_succ]
      refine wl_step (st_store (i := 1) hE2 rfl rfl rfl rfl rfl (sz_of (n := 32) (by kernel_rfl) (by first | (simp only [ints_size, digs_length, List.length_replicate, List.length_cons, List.length_nil]; done) | (simp only [ints_size, digs_length, List.length_replicate, List.length_cons, List.length_nil, List.length_set, List.length_append]; omega) | rfl)) (by first | (simp only [ints_size, digs_length, List.length_replicate, List.length_cons, List.length_nil]; done) | (simp only [ints_size, digs_length, List.length_replicate, List.length_cons, List.length_nil, List.length_set, List.length_append]; omega) | rfl) (by first | exact ints_one _ _ | decide | rfl | simp [*]) ?_)
      intro w3 hE3
      clear hE2
      simp only [List.set_cons_zero, List.set_cons_succ] at hE3
      simp only [Act.put, List.setIfInBounds_toArray, List.set_cons_zero, List.set_cons_succ]
      repeat ((fail_if_success (with_reducible show wpList _ _ _ (List.cons _ _) _ _)); (fail_if_success (with_reducible show Code.wp _ (Code.region _ _ true) _ _ _)); go_step)
      refine bodyPost_ret (results_cell_row rfl _ _ _ _ _ (0, 0) _ rfl (hE3.get (i := 1) rfl) Tryd.underlying32 rfl (sz_of (n := 32) (by kernel_rfl) (by first | (simp only [ints_size, digs_length, List.length_replicate, List.length_cons, List.length_nil]; done) | (simp only [ints_size, digs_length, List.length_replicate, List.length_cons, List.length_nil, List.length_set, List.length_append]; omega) | rfl))) rfl ⟨rfl, hE3.below⟩

end Go.Proofs.YtndnmghlgcamfaaDoor
