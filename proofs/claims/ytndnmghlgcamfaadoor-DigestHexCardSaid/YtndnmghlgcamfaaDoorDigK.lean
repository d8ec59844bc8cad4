/-
  Layer 3: the sum of what a stream took.
-/
import Derived.Test.YtndnmghlgcamfaaDoorDigJ
namespace Go.Proofs.YtndnmghlgcamfaaDoor
open Go.RowKit
set_option maxRecDepth 100000
set_option linter.unusedVariables false
set_option linter.unusedSimpArgs false

set_option maxRecDepth 100000 in
set_option maxHeartbeats 8000000 in
theorem SSum_any {w : World} {g : Nat} {M : List Nat} {v : Value} (hg : w.heap[g]? = some (.cells (scl (st256 M) v M.length).toArray 60 (0, 0))) (hv : RdS .u8 (restL 64 M) v w) (dM : Digs 256 M) (hM : M.length < 549755813888) :
    Gives 15 #[.pointer (some ⟨g, 0, none⟩)] w (.agg (ints .u8 (sum256 M))) := by
  obtain ⟨i0, hi, hz, hs, hby⟩ := info_u8
  have Hi := Lib.hid hi
  have Hz := Lib.hid hz
  have Hs := Lib.hid hs
  have Hby := Lib.hid hby
  clear hi hz hs hby
  have hn40 : M.length < 1099511627776 := by omega
  have hrl := restL_len (B := 64) (by decide) M
  have h63 : (restL 64 M).length ≤ maxLen := by simp only [maxLen]; omega
  have hfit : (restL 64 M).length * 1 ≤ 140737488355328 := by omega
  have hfl : M.length + (fillL M.length 64 8).length < 1099511627776 := by
    rw [fillL_len (by decide)]
    have := padK_lt (n := M.length) (B := 64) (r := 8) (by decide)
    omega
  have Hg := Lib.hid hg
  have Hv := Lib.hid hv
  have HDM := Lib.hid dM
  clear hg hv dM hrl
  have hE0 := Env.nil w
  go_enter Tryd.func15, Tryd.ntmps15
  repeat ((fail_if_success (with_reducible show wpList _ _ _ (List.cons _ _) _ _)); (fail_if_success (with_reducible show Code.wp _ (Code.region _ _ true) _ _ _)); go_step)
  refine wl_step (st_alloc (zs := ints .u8 (List.replicate 32 0)) hE0 rfl rfl (fun w => by kernel_rfl) ?_)
  intro g0 w1 hb1 hE1
  clear hE0
  simp only [Act.put, List.setIfInBounds_toArray, List.set_cons_zero, List.set_cons_succ]
  repeat ((fail_if_success (with_reducible show wpList _ _ _ (List.cons _ _) _ _)); (fail_if_success (with_reducible show Code.wp _ (Code.region _ _ true) _ _ _)); go_step)
  refine wl_step (st_calls rfl (run_call rfl Tryd.call13) (New_any _) ?_)
  rintro _ w2 ⟨gN, rfl, hN⟩
  have hE2 := hE1.call hN.below
  refine ⟨_, rfl, ?_⟩
  clear hE1
  simp only [Act.put, List.setIfInBounds_toArray, List.set_cons_zero, List.set_cons_succ]
  refine wl_step (st_val rfl (v_moveT (.inr rfl) rfl) ?_)
  simp only [Act.put, List.setIfInBounds_toArray, List.set_cons_zero, List.set_cons_succ]
  repeat ((fail_if_success (with_reducible show wpList _ _ _ (List.cons _ _) _ _)); (fail_if_success (with_reducible show Code.wp _ (Code.region _ _ true) _ _ _)); go_step)
  refine wl_step (st_val rfl (v_moveT (.inl rfl) rfl) ?_)
  simp only [Act.put, List.setIfInBounds_toArray, List.set_cons_zero, List.set_cons_succ]
  refine wl_step (st_val rfl (v_run fun w9 => by go_simp; with_reducible rfl) ?_)
  simp only [Act.put, List.setIfInBounds_toArray, List.set_cons_zero, List.set_cons_succ]
  repeat ((fail_if_success (with_reducible show wpList _ _ _ (List.cons _ _) _ _)); (fail_if_success (with_reducible show Code.wp _ (Code.region _ _ true) _ _ _)); (fail_if_success (with_reducible show Code.wp _ (Code.cond _ _ _) _ _ _)); go_step)
  refine wp_cond_true (by first | rfl | exact congrArg Value.bool (decide_eq_true (by omega))) ?_
  skip
  repeat ((fail_if_success (with_reducible show wpList _ _ _ (List.cons _ _) _ _)); (fail_if_success (with_reducible show Code.wp _ (Code.region _ _ true) _ _ _)); go_step)
  refine wp_region_B (n := 16) 15 (by kernel_rfl) rfl hE2 ?_
  intro w3 hb3 hE3
  clear hE2
  refine wpB_take (i := 0) (by kernel_rfl) rfl (by kernel_rfl) (fun _ _ _ h => h) rfl (v_moveT (.inl rfl) rfl) ?_
  simp only [Act.put, List.setIfInBounds_toArray, List.set_cons_zero, List.set_cons_succ]
  refine wpB_take (i := 1) (by kernel_rfl) rfl (by kernel_rfl) (fun _ _ _ h => h) rfl (v_nil rfl rfl) ?_
  simp only [Act.put, List.setIfInBounds_toArray, List.set_cons_zero, List.set_cons_succ]
  refine wpB_take (i := 2) (by kernel_rfl) rfl (by kernel_rfl) (fun _ _ _ h => h) rfl (v_field0 (s := 7) rfl rfl Tryd.underlying60 rfl (by kernel_rfl) rfl) ?_
  simp only [Act.put, List.setIfInBounds_toArray, List.set_cons_zero, List.set_cons_succ]
  refine wpB_take (i := 3) (by kernel_rfl) rfl (by kernel_rfl) (fun _ _ _ h => h) rfl (v_loadW Hg.out (scl_state (st256_len M)) hE3 rfl rfl Tryd.underlying57 rfl (by kernel_rfl) (by rw [scl_len (st256_len M)]; decide)) ?_
  simp only [Act.put, List.setIfInBounds_toArray, List.set_cons_zero, List.set_cons_succ]
  rw [nats_ints]
  refine wpB_take (i := 4) (by kernel_rfl) rfl (by kernel_rfl) (fun _ _ _ h => h) rfl (v_moveT (.inl rfl) rfl) ?_
  simp only [Act.put, List.setIfInBounds_toArray, List.set_cons_zero, List.set_cons_succ]
  refine wpB_take (i := 5) (by kernel_rfl) rfl (by kernel_rfl) (fun _ _ _ h => h) rfl (v_nil rfl rfl) ?_
  simp only [Act.put, List.setIfInBounds_toArray, List.set_cons_zero, List.set_cons_succ]
  refine wpB_take (i := 6) (by kernel_rfl) rfl (by kernel_rfl) (fun _ _ _ h => h) rfl (v_fieldK (s := 0) rfl rfl Tryd.underlying60 rfl (by kernel_rfl) rfl) ?_
  simp only [Act.put, List.setIfInBounds_toArray, List.set_cons_zero, List.set_cons_succ]
  refine wpB_take (i := 7) (by kernel_rfl) rfl (by kernel_rfl) (fun _ _ _ h => h) rfl (v_cellW Hg.out (scl_get8 (st256_len M)) hE3 rfl rfl Tryd.underlying22 rfl) ?_
  simp only [Act.put, List.setIfInBounds_toArray, List.set_cons_zero, List.set_cons_succ]
  refine wpB_take (i := 9) (by kernel_rfl) rfl (by kernel_rfl) (fun _ _ _ h => h) rfl (v_moveT (.inl rfl) rfl) ?_
  simp only [Act.put, List.setIfInBounds_toArray, List.set_cons_zero, List.set_cons_succ]
  refine wpB_take (i := 10) (by kernel_rfl) rfl (by kernel_rfl) (fun _ _ _ h => h) rfl (v_nil rfl rfl) ?_
  simp only [Act.put, List.setIfInBounds_toArray, List.set_cons_zero, List.set_cons_succ]
  refine wpB_take (i := 11) (by kernel_rfl) rfl (by kernel_rfl) (fun _ _ _ h => h) rfl (v_fieldK (s := 0) rfl rfl Tryd.underlying60 rfl (by kernel_rfl) rfl) ?_
  simp only [Act.put, List.setIfInBounds_toArray, List.set_cons_zero, List.set_cons_succ]
  refine wpB_take (i := 12) (by kernel_rfl) rfl (by kernel_rfl) (fun _ _ _ h => h) rfl (v_cellW Hg.out (scl_get9 (st256_len M)) hE3 rfl rfl Tryd.underlying3 rfl) ?_
  simp only [Act.put, List.setIfInBounds_toArray, List.set_cons_zero, List.set_cons_succ]
  refine wpB_step (i := 8) (by kernel_rfl) rfl (st_appendN hE3 rfl rfl Tryd.underlying22 Hi.out Hz.out Hs.out rfl Hby.out rfl rfl (Hv.out.below hE3.below) h63 hfit ?_)
  intro v2 w4 bs2 hb4 ho2 hE4
  clear hE3
  refine ⟨fun _ => hb4, ?_⟩
  simp only [Act.put, List.setIfInBounds_toArray, List.set_cons_zero, List.set_cons_succ]
  obtain ⟨p2, c2, hv2, hc2⟩ := ho2.lenN
  subst hv2
  have HO2 := Lib.hid ho2
  clear ho2
  refine wpB_take (i := 13) (by kernel_rfl) rfl (by kernel_rfl) (fun _ _ _ h => h) rfl (v_buildV (zs := szero) (lay := [(0, 8), (8, 1), (9, 1)]) (vals := [(0, .agg (ints .u32 (st256 M))), (1, .slice p2 (restL 64 M).length c2), (2, .int .i64 (M.length : Int))]) (scl (st256 M) (.slice p2 (restL 64 M).length c2) M.length) rfl (by kernel_rfl) Tryd.underlying60 (by kernel_rfl) rfl (laid_all (st256_len M))) ?_
  simp only [Act.put, List.setIfInBounds_toArray, List.set_cons_zero, List.set_cons_succ]
  refine wpB_step (i := 14) (by kernel_rfl) rfl (st_boxA hE4 rfl rfl rfl ?_)
  intro g1 w5 hb5 hE5
  clear hE4
  refine ⟨fun _ => hb5, ?_⟩
  simp only [Act.put, List.setIfInBounds_toArray, List.set_cons_zero, List.set_cons_succ]
  refine wpB_step (i := 15) (by kernel_rfl) rfl (st_val rfl (v_moveT (.inr rfl) rfl) ?_)
  refine ⟨fun _ => Below.refl _ _, ?_⟩
  simp only [Act.put, List.setIfInBounds_toArray, List.set_cons_zero, List.set_cons_succ]
  refine wpB_done (by kernel_rfl) ?_ _
  repeat ((fail_if_success (with_reducible show wpList _ _ _ (List.cons _ _) _ _)); (fail_if_success (with_reducible show Code.wp _ (Code.region _ _ true) _ _ _)); go_step)
  refine wl_step (st_val rfl (v_moveT (.inl rfl) rfl) ?_)
  simp only [Act.put, List.setIfInBounds_toArray, List.set_cons_zero, List.set_cons_succ]
  refine wl_step (st_val rfl (v_moveT (.inl rfl) rfl) ?_)
  simp only [Act.put, List.setIfInBounds_toArray, List.set_cons_zero, List.set_cons_succ]
  refine wl_step (st_val rfl (v_nil rfl rfl) ?_)
  simp only [Act.put, List.setIfInBounds_toArray, List.set_cons_zero, List.set_cons_succ]
  refine wl_step (st_val rfl (v_fieldB (s := 0) rfl rfl Tryd.underlying60 rfl (by kernel_rfl) rfl) ?_)
  simp only [Act.put, List.setIfInBounds_toArray, List.set_cons_zero, List.set_cons_succ]
  refine wl_step (st_val rfl (v_cellH (scl_get9 (st256_len M)) hE5 rfl rfl Tryd.underlying3 rfl) ?_)
  simp only [Act.put, List.setIfInBounds_toArray, List.set_cons_zero, List.set_cons_succ]
  refine wl_step (st_calls rfl (run_call rfl Tryd.call23) (fill_any hn40 (by decide) (by decide) (by decide) (by decide) _) ?_)
  rintro _ w6 ⟨v3, rfl, hF⟩
  obtain ⟨bs3, ho3, hEE⟩ := hE5.lift hF
  have hE6 := Env.swp hEE
  refine ⟨_, rfl, ?_⟩
  clear hE5
  simp only [Act.put, List.setIfInBounds_toArray, List.set_cons_zero, List.set_cons_succ]
  refine wl_step (st_calls rfl (run_call rfl Tryd.call14) (Write_any HO2.out (Env.mid.2 hE6) (fun w' h => (Ow.sl ho3 h).rdS) HDM.out (fillL_Digs _ _ _) hfl) ?_)
  rintro _ w7 ⟨rfl, v4, bs4, ho4, hEE⟩
  have hE7 := Env.mid.1 hEE
  refine ⟨_, rfl, ?_⟩
  clear hE6
  simp only [Act.put, List.setIfInBounds_toArray, List.set_cons_zero, List.set_cons_succ]
  have hl8 : (st256 (M ++ fillL M.length 64 8)).length = 8 := st256_len _
  have hld := chainS_lt (k := k256) (B := 64) (h := k256.first) k256_firstD (M ++ fillL M.length 64 8) ((M ++ fillL M.length 64 8).length / 64)
  have hfin : sum256 M = outL 4 (st256 (M ++ fillL M.length 64 8)) := rfl
  change ∀ j, (st256 (M ++ fillL M.length 64 8)).getD j 0 < 4294967296 at hld
  obtain ⟨V, hV⟩ : ∃ V, st256 (M ++ fillL M.length 64 8) = V := ⟨_, rfl⟩
  rw [hV] at hE7 hl8 hld hfin
  have HV := Lib.hid hld
  have HF := Lib.hid hfin
  clear hld hfin hV
  repeat ((fail_if_success (with_reducible show wpList _ _ _ (List.cons _ _) _ _)); (fail_if_success (with_reducible show Code.wp _ (Code.region _ _ true) _ _ _)); go_step)
  refine wl_step (st_alloc (zs := ints .u8 (List.replicate 32 0)) hE7 rfl rfl (fun w => by kernel_rfl) ?_)
  intro g2 w8 hb8 hE8
  clear hE7
  simp only [Act.put, List.setIfInBounds_toArray, List.set_cons_zero, List.set_cons_succ]
  repeat ((fail_if_success (with_reducible show wpList _ _ _ (List.cons _ _) _ _)); (fail_if_success (with_reducible show Code.wp _ (Code.region _ _ true) _ _ _)); go_step)
  refine wl_step (st_val rfl (v_moveT (.inl rfl) rfl) ?_)
  simp only [Act.put, List.setIfInBounds_toArray, List.set_cons_zero, List.set_cons_succ]
  refine wl_step (st_val rfl (v_nil rfl rfl) ?_)
  simp only [Act.put, List.setIfInBounds_toArray, List.set_cons_zero, List.set_cons_succ]
  refine wl_step (st_val rfl (v_field0 (s := 7) rfl rfl Tryd.underlying60 rfl (by kernel_rfl) rfl) ?_)
  simp only [Act.put, List.setIfInBounds_toArray, List.set_cons_zero, List.set_cons_succ]
  refine wl_step (st_val rfl (v_loadCut (i := 1) (Y := nats .u32 V) (scl_state hl8) hE8 rfl rfl rfl Tryd.underlying57 rfl (by kernel_rfl) (by rw [List.size_toArray, List.length_append, nats_len, hl8]; exact Nat.le_add_right 8 _)) ?_)
  simp only [Act.put, List.setIfInBounds_toArray, List.set_cons_zero, List.set_cons_succ]
  rw [nats_ints]
  refine wl_step (st_val rfl (v_moveC (.inl rfl)) ?_)
  simp only [Act.put, List.setIfInBounds_toArray, List.set_cons_zero, List.set_cons_succ]
  have hz : ints .u8 (List.replicate 32 0) = ints .u8 (outAt 4 V 0) := by rw [outAt_zero, hl8]
  rw [hz] at hE8
  have hst : Env w [⟨g2, 32, ints .u8 (outAt 4 V 0)⟩, ⟨g0, 32, ints .u8 (outAt 4 V 0)⟩] w8 := (hE8).sub (List.Sublist.cons_cons _ (List.Sublist.cons _ ((List.sublist_append_right _ _).trans (List.sublist_append_right _ _))))
  clear hE8 hz
  go_wp2
  go_loopw [36] (fun i wr => ∃ n : Nat, n ≤ 8 ∧ i = .int .i64 n ∧ Env w [⟨g2, 32, ints .u8 (outAt 4 V n)⟩, ⟨g0, 32, ints .u8 (outAt 4 V 0)⟩] wr) (fun i _ => 8 - (intOf i).toNat)
  case atStart => exact ⟨0, Nat.zero_le _, rfl, hst⟩
  case round =>
    clear hst
    obtain ⟨n, hn, rfl, hE0⟩ := hrel
    by_cases hn8 : n < 8
    · have hx := HV.out n
      have hput := outAt_put (k := 4) (L := V) (n := n) (by rw [hl8]; exact hn8)
      have hX : 4 * n + 4 ≤ (outAt 4 V n).length := by rw [outAt_len (by rw [hl8]; exact hn), hl8]; omega
      have hx64 : V.getD n 0 < 18446744073709551616 := by omega
      have e4 : 4 * n + 4 - 4 * n = 4 := by omega
      have HP := Lib.hid hput
      have E4 := Lib.hid e4
      clear hput e4
      repeat ((fail_if_success (with_reducible show wpList _ _ _ (List.cons _ _) _ _)); (fail_if_success (with_reducible show Code.wp _ (Code.region _ _ true) _ _ _)); go_step)
      refine wl_step (st_val rfl (v_lss (n := 8) rfl rfl rfl) ?_)
      simp only [Act.put, List.setIfInBounds_toArray, List.set_cons_zero, List.set_cons_succ]
      repeat ((fail_if_success (with_reducible show wpList _ _ _ (List.cons _ _) _ _)); (fail_if_success (with_reducible show Code.wp _ (Code.region _ _ true) _ _ _)); (fail_if_success (with_reducible show Code.wp _ (Code.cond _ _ _) _ _ _)); go_step)
      refine wp_cond_true (by first | rfl | exact congrArg Value.bool (decide_eq_true (by omega))) ?_
      skip
      repeat ((fail_if_success (with_reducible show wpList _ _ _ (List.cons _ _) _ _)); (fail_if_success (with_reducible show Code.wp _ (Code.region _ _ true) _ _ _)); go_step)
      refine wl_step (st_val rfl (v_moveT (.inl rfl) rfl) ?_)
      simp only [Act.put, List.setIfInBounds_toArray, List.set_cons_zero, List.set_cons_succ]
      refine wl_step (st_val rfl (v_idx rfl rfl rfl Tryd.underlying57 (by kernel_rfl : _ = some Tryd.t56) rfl Tryd.underlying56 (by first | assumption | simp) (by first | assumption | omega)) ?_)
      simp only [Act.put, List.setIfInBounds_toArray, List.set_cons_zero, List.set_cons_succ]
      refine wl_step (st_val rfl (v_moveT (.inr rfl) rfl) ?_)
      simp only [Act.put, List.setIfInBounds_toArray, List.set_cons_zero, List.set_cons_succ]
      refine wl_step (st_val rfl (v_moveT (.inr rfl) rfl) ?_)
      simp only [Act.put, List.setIfInBounds_toArray, List.set_cons_zero, List.set_cons_succ]
      repeat ((fail_if_success (with_reducible show wpList _ _ _ (List.cons _ _) _ _)); (fail_if_success (with_reducible show Code.wp _ (Code.region _ _ true) _ _ _)); go_step)
      refine wl_step (st_val rfl (v_moveT (.inl rfl) rfl) ?_)
      simp only [Act.put, List.setIfInBounds_toArray, List.set_cons_zero, List.set_cons_succ]
      refine wl_step (st_val rfl (v_mul (m := 4) rfl rfl rfl (w_i64 (by omega))) ?_)
      simp only [Act.put, List.setIfInBounds_toArray, List.set_cons_zero, List.set_cons_succ]
      refine wl_step (st_val rfl (v_moveT (.inl rfl) rfl) ?_)
      simp only [Act.put, List.setIfInBounds_toArray, List.set_cons_zero, List.set_cons_succ]
      refine wl_step (st_val rfl (v_mul (m := 4) rfl rfl rfl (w_i64 (by omega))) ?_)
      simp only [Act.put, List.setIfInBounds_toArray, List.set_cons_zero, List.set_cons_succ]
      refine wl_step (st_val rfl (v_add (n := 4) rfl rfl rfl (w_i64 (by omega))) ?_)
      simp only [Act.put, List.setIfInBounds_toArray, List.set_cons_zero, List.set_cons_succ]
      refine wl_step (st_val rfl (v_sliceArr rfl rfl rfl rfl Tryd.underlying32 (by kernel_rfl) (by omega) (by omega) (by omega)) ?_)
      simp only [Act.put, List.setIfInBounds_toArray, List.set_cons_zero, List.set_cons_succ]
      rw [E4.out]
      refine wl_step (st_val rfl (v_moveT (.inl rfl) rfl) ?_)
      simp only [Act.put, List.setIfInBounds_toArray, List.set_cons_zero, List.set_cons_succ]
      refine wl_step (st_val rfl (v_convInt rfl rfl Tryd.underlying56 Tryd.underlying67 (w_u64 hx64)) ?_)
      simp only [Act.put, List.setIfInBounds_toArray, List.set_cons_zero, List.set_cons_succ]
      refine wl_step (st_calls rfl (run_call rfl Tryd.call24) (put_any hE0 (i := 0) rfl hX (by decide) hx64) ?_)
      rintro _ w1 ⟨rfl, hE1⟩
      refine ⟨_, rfl, ?_⟩
      clear hE0
      simp only [Act.put, List.setIfInBounds_toArray, List.set_cons_zero, List.set_cons_succ]
      rw [HP.out] at hE1
      simp only [List.set_cons_zero] at hE1
      repeat ((fail_if_success (with_reducible show wpList _ _ _ (List.cons _ _) _ _)); (fail_if_success (with_reducible show Code.wp _ (Code.region _ _ true) _ _ _)); go_step)
      refine wl_step (st_val rfl (v_add (n := 1) rfl rfl rfl (w_i64 (by omega))) ?_)
      simp only [Act.put, List.setIfInBounds_toArray, List.set_cons_zero, List.set_cons_succ]
      refine wl_step (st_val rfl (v_moveT (.inl rfl) rfl) ?_)
      simp only [Act.put, List.setIfInBounds_toArray, List.set_cons_zero, List.set_cons_succ]
      go_wp2
      go_roundw
      case rel => exact ⟨n + 1, by omega, rfl, hE1⟩
      case measure => simp [intOf]; omega
    · have hn' : n = 8 := by omega
      subst hn'
      have hfu : outAt 4 V 8 = sum256 M := by
        have := outAt_full 4 V
        rw [hl8] at this
        rw [this, HF.out]
      rw [hfu] at hE0
      have h32 := sum256_len M
      have h033 : (outAt 4 V 0).length = 32 := by rw [outAt_len (Nat.zero_le _), hl8]
      repeat ((fail_if_success (with_reducible show wpList _ _ _ (List.cons _ _) _ _)); (fail_if_success (with_reducible show Code.wp _ (Code.region _ _ true) _ _ _)); go_step)
      refine wl_step (st_val rfl (v_lss (n := 8) rfl rfl rfl) ?_)
      simp only [Act.put, List.setIfInBounds_toArray, List.set_cons_zero, List.set_cons_succ]
      repeat ((fail_if_success (with_reducible show wpList _ _ _ (List.cons _ _) _ _)); (fail_if_success (with_reducible show Code.wp _ (Code.region _ _ true) _ _ _)); (fail_if_success (with_reducible show Code.wp _ (Code.cond _ _ _) _ _ _)); go_step)
      refine wp_cond_false (by first | rfl | exact congrArg Value.bool (decide_eq_false (by omega))) ?_
      skip
      repeat ((fail_if_success (with_reducible show wpList _ _ _ (List.cons _ _) _ _)); (fail_if_success (with_reducible show Code.wp _ (Code.region _ _ true) _ _ _)); go_step)
      refine wl_step (st_val rfl (v_load (i := 0) hE0 rfl rfl rfl Tryd.underlying32 rfl (sz_of (n := 32) (by kernel_rfl) (by first | (simp only [ints_size, digs_length, List.length_replicate, List.length_cons, List.length_nil]; done) | (simp only [ints_size, digs_length, List.length_replicate, List.length_cons, List.length_nil, List.length_set, List.length_append]; omega) | rfl))) ?_)
      simp only [Act.put, List.setIfInBounds_toArray, List.set_cons_zero, List.set_cons_succ]
      refine wl_step (st_store (i := 1) hE0 rfl rfl rfl rfl rfl (sz_of (n := 32) (by kernel_rfl) (by first | (simp only [ints_size, digs_length, List.length_replicate, List.length_cons, List.length_nil]; done) | (simp only [ints_size, digs_length, List.length_replicate, List.length_cons, List.length_nil, List.length_set, List.length_append]; omega) | rfl)) (by first | (simp only [ints_size, digs_length, List.length_replicate, List.length_cons, List.length_nil]; done) | (simp only [ints_size, digs_length, List.length_replicate, List.length_cons, List.length_nil, List.length_set, List.length_append]; omega) | rfl) (by first | exact ints_one _ _ | decide | rfl | simp [*]) ?_)
      intro w1 hE1
      clear hE0
      simp only [List.set_cons_zero, List.set_cons_succ] at hE1
      simp only [Act.put, List.setIfInBounds_toArray, List.set_cons_zero, List.set_cons_succ]
      repeat ((fail_if_success (with_reducible show wpList _ _ _ (List.cons _ _) _ _)); (fail_if_success (with_reducible show Code.wp _ (Code.region _ _ true) _ _ _)); go_step)
      refine bodyPost_ret (results_cell_row rfl _ _ _ _ _ (0, 0) _ rfl (hE1.get (i := 1) rfl) Tryd.underlying32 rfl (sz_of (n := 32) (by kernel_rfl) (by first | (simp only [ints_size, digs_length, List.length_replicate, List.length_cons, List.length_nil]; done) | (simp only [ints_size, digs_length, List.length_replicate, List.length_cons, List.length_nil, List.length_set, List.length_append]; omega) | rfl))) rfl ⟨rfl, hE1.below⟩

set_option maxRecDepth 100000 in
set_option maxHeartbeats 8000000 in
theorem Sum_nil (w : World) : Gives 15 #[.pointer none] w (.agg (ints .u8 (sum256 []))) := by
  obtain ⟨M, hM0⟩ : ∃ M : List Nat, M = [] := ⟨_, rfl⟩
  have hMl : M.length = 0 := by rw [hM0]; rfl
  have hn40 : M.length < 1099511627776 := by omega
  have hfl : M.length + (fillL M.length 64 8).length < 1099511627776 := by
    rw [fillL_len (by decide)]
    have := padK_lt (n := M.length) (B := 64) (r := 8) (by decide)
    omega
  have HDM : Hid (Digs 256 M) := Lib.hid (hM0 ▸ Digs.nil)
  have HO2 : Hid (Ow 5 (nats .u8 (restL 64 M)) (.slice none 0 0) []) := Lib.hid (by rw [hM0, restL_nil]; exact Ow.nil _)
  have hN0 : (scl k256.first (.slice none 0 0) 0).toArray = (scl (st256 M) (.slice none 0 0) M.length).toArray := by rw [hM0]; rfl
  have HN0 := Lib.hid hN0
  rw [← hM0]
  clear hM0 hN0
  have hE0 := Env.nil w
  go_enter Tryd.func15, Tryd.ntmps15
  repeat ((fail_if_success (with_reducible show wpList _ _ _ (List.cons _ _) _ _)); (fail_if_success (with_reducible show Code.wp _ (Code.region _ _ true) _ _ _)); go_step)
  refine wl_step (st_alloc (zs := ints .u8 (List.replicate 32 0)) hE0 rfl rfl (fun w => by kernel_rfl) ?_)
  intro g0 w1 hb1 hE1
  clear hE0
  simp only [Act.put, List.setIfInBounds_toArray, List.set_cons_zero, List.set_cons_succ]
  repeat ((fail_if_success (with_reducible show wpList _ _ _ (List.cons _ _) _ _)); (fail_if_success (with_reducible show Code.wp _ (Code.region _ _ true) _ _ _)); go_step)
  refine wl_step (st_calls rfl (run_call rfl Tryd.call13) (New_any _) ?_)
  rintro _ w2 ⟨gN, rfl, hN⟩
  have hE2 := hE1.lift1 hN
  rw [HN0.out] at hE2
  refine ⟨_, rfl, ?_⟩
  clear hE1
  simp only [Act.put, List.setIfInBounds_toArray, List.set_cons_zero, List.set_cons_succ]
  refine wl_step (st_val rfl (v_moveT (.inr rfl) rfl) ?_)
  simp only [Act.put, List.setIfInBounds_toArray, List.set_cons_zero, List.set_cons_succ]
  repeat ((fail_if_success (with_reducible show wpList _ _ _ (List.cons _ _) _ _)); (fail_if_success (with_reducible show Code.wp _ (Code.region _ _ true) _ _ _)); go_step)
  refine wl_step (st_val rfl (v_moveT (.inl rfl) rfl) ?_)
  simp only [Act.put, List.setIfInBounds_toArray, List.set_cons_zero, List.set_cons_succ]
  refine wl_step (st_val rfl (v_run fun w9 => by go_simp; with_reducible rfl) ?_)
  simp only [Act.put, List.setIfInBounds_toArray, List.set_cons_zero, List.set_cons_succ]
  repeat ((fail_if_success (with_reducible show wpList _ _ _ (List.cons _ _) _ _)); (fail_if_success (with_reducible show Code.wp _ (Code.region _ _ true) _ _ _)); (fail_if_success (with_reducible show Code.wp _ (Code.cond _ _ _) _ _ _)); go_step)
  refine wp_cond_false (by first | rfl | exact congrArg Value.bool (decide_eq_false (by omega))) ?_
  skip
  have hE2 : Env w (⟨gN, 60, (scl (st256 M) (.slice none 0 0) M.length).toArray⟩ :: ([] ++ [⟨g0, 32, ints .u8 (List.replicate 32 0)⟩])) w2 := hE2
  repeat ((fail_if_success (with_reducible show wpList _ _ _ (List.cons _ _) _ _)); (fail_if_success (with_reducible show Code.wp _ (Code.region _ _ true) _ _ _)); go_step)
  refine wl_step (st_val rfl (v_moveT (.inl rfl) rfl) ?_)
  simp only [Act.put, List.setIfInBounds_toArray, List.set_cons_zero, List.set_cons_succ]
  refine wl_step (st_val rfl (v_moveT (.inl rfl) rfl) ?_)
  simp only [Act.put, List.setIfInBounds_toArray, List.set_cons_zero, List.set_cons_succ]
  refine wl_step (st_val rfl (v_nil rfl rfl) ?_)
  simp only [Act.put, List.setIfInBounds_toArray, List.set_cons_zero, List.set_cons_succ]
  refine wl_step (st_val rfl (v_fieldB (s := 0) rfl rfl Tryd.underlying60 rfl (by kernel_rfl) rfl) ?_)
  simp only [Act.put, List.setIfInBounds_toArray, List.set_cons_zero, List.set_cons_succ]
  refine wl_step (st_val rfl (v_cellH (scl_get9 (st256_len M)) hE2 rfl rfl Tryd.underlying3 rfl) ?_)
  simp only [Act.put, List.setIfInBounds_toArray, List.set_cons_zero, List.set_cons_succ]
  refine wl_step (st_calls rfl (run_call rfl Tryd.call23) (fill_any hn40 (by decide) (by decide) (by decide) (by decide) _) ?_)
  rintro _ w3 ⟨v3, rfl, hF⟩
  obtain ⟨bs3, ho3, hEE⟩ := hE2.lift hF
  have hE3 := Env.swp hEE
  refine ⟨_, rfl, ?_⟩
  clear hE2
  simp only [Act.put, List.setIfInBounds_toArray, List.set_cons_zero, List.set_cons_succ]
  refine wl_step (st_calls rfl (run_call rfl Tryd.call14) (Write_any HO2.out (Env.mid.2 hE3) (fun w' h => (Ow.sl ho3 h).rdS) HDM.out (fillL_Digs _ _ _) hfl) ?_)
  rintro _ w4 ⟨rfl, v4, bs4, ho4, hEE⟩
  have hE4 := Env.mid.1 hEE
  refine ⟨_, rfl, ?_⟩
  clear hE3
  simp only [Act.put, List.setIfInBounds_toArray, List.set_cons_zero, List.set_cons_succ]
  have hl8 : (st256 (M ++ fillL M.length 64 8)).length = 8 := st256_len _
  have hld := chainS_lt (k := k256) (B := 64) (h := k256.first) k256_firstD (M ++ fillL M.length 64 8) ((M ++ fillL M.length 64 8).length / 64)
  have hfin : sum256 M = outL 4 (st256 (M ++ fillL M.length 64 8)) := rfl
  change ∀ j, (st256 (M ++ fillL M.length 64 8)).getD j 0 < 4294967296 at hld
  obtain ⟨V, hV⟩ : ∃ V, st256 (M ++ fillL M.length 64 8) = V := ⟨_, rfl⟩
  rw [hV] at hE4 hl8 hld hfin
  have HV := Lib.hid hld
  have HF := Lib.hid hfin
  clear hld hfin hV
  repeat ((fail_if_success (with_reducible show wpList _ _ _ (List.cons _ _) _ _)); (fail_if_success (with_reducible show Code.wp _ (Code.region _ _ true) _ _ _)); go_step)
  refine wl_step (st_alloc (zs := ints .u8 (List.replicate 32 0)) hE4 rfl rfl (fun w => by kernel_rfl) ?_)
  intro g1 w5 hb5 hE5
  clear hE4
  simp only [Act.put, List.setIfInBounds_toArray, List.set_cons_zero, List.set_cons_succ]
  repeat ((fail_if_success (with_reducible show wpList _ _ _ (List.cons _ _) _ _)); (fail_if_success (with_reducible show Code.wp _ (Code.region _ _ true) _ _ _)); go_step)
  refine wl_step (st_val rfl (v_moveT (.inl rfl) rfl) ?_)
  simp only [Act.put, List.setIfInBounds_toArray, List.set_cons_zero, List.set_cons_succ]
  refine wl_step (st_val rfl (v_nil rfl rfl) ?_)
  simp only [Act.put, List.setIfInBounds_toArray, List.set_cons_zero, List.set_cons_succ]
  refine wl_step (st_val rfl (v_field0 (s := 7) rfl rfl Tryd.underlying60 rfl (by kernel_rfl) rfl) ?_)
  simp only [Act.put, List.setIfInBounds_toArray, List.set_cons_zero, List.set_cons_succ]
  refine wl_step (st_val rfl (v_loadCut (i := 1) (Y := nats .u32 V) (scl_state hl8) hE5 rfl rfl rfl Tryd.underlying57 rfl (by kernel_rfl) (by rw [List.size_toArray, List.length_append, nats_len, hl8]; exact Nat.le_add_right 8 _)) ?_)
  simp only [Act.put, List.setIfInBounds_toArray, List.set_cons_zero, List.set_cons_succ]
  rw [nats_ints]
  refine wl_step (st_val rfl (v_moveC (.inl rfl)) ?_)
  simp only [Act.put, List.setIfInBounds_toArray, List.set_cons_zero, List.set_cons_succ]
  have hz : ints .u8 (List.replicate 32 0) = ints .u8 (outAt 4 V 0) := by rw [outAt_zero, hl8]
  rw [hz] at hE5
  have hst : Env w [⟨g1, 32, ints .u8 (outAt 4 V 0)⟩, ⟨g0, 32, ints .u8 (outAt 4 V 0)⟩] w5 := (hE5).sub (List.Sublist.cons_cons _ (List.Sublist.cons _ ((List.sublist_append_right _ _).trans (List.sublist_append_right _ _))))
  clear hE5 hz
  go_wp2
  go_loopw [36] (fun i wr => ∃ n : Nat, n ≤ 8 ∧ i = .int .i64 n ∧ Env w [⟨g1, 32, ints .u8 (outAt 4 V n)⟩, ⟨g0, 32, ints .u8 (outAt 4 V 0)⟩] wr) (fun i _ => 8 - (intOf i).toNat)
  case atStart => exact ⟨0, Nat.zero_le _, rfl, hst⟩
  case round =>
    clear hst
    obtain ⟨n, hn, rfl, hE0⟩ := hrel
    by_cases hn8 : n < 8
    · have hx := HV.out n
      have hput := outAt_put (k := 4) (L := V) (n := n) (by rw [hl8]; exact hn8)
      have hX : 4 * n + 4 ≤ (outAt 4 V n).length := by rw [outAt_len (by rw [hl8]; exact hn), hl8]; omega
      have hx64 : V.getD n 0 < 18446744073709551616 := by omega
      have e4 : 4 * n + 4 - 4 * n = 4 := by omega
      have HP := Lib.hid hput
      have E4 := Lib.hid e4
      clear hput e4
      repeat ((fail_if_success (with_reducible show wpList _ _ _ (List.cons _ _) _ _)); (fail_if_success (with_reducible show Code.wp _ (Code.region _ _ true) _ _ _)); go_step)
      refine wl_step (st_val rfl (v_lss (n := 8) rfl rfl rfl) ?_)
      simp only [Act.put, List.setIfInBounds_toArray, List.set_cons_zero, List.set_cons_succ]
      repeat ((fail_if_success (with_reducible show wpList _ _ _ (List.cons _ _) _ _)); (fail_if_success (with_reducible show Code.wp _ (Code.region _ _ true) _ _ _)); (fail_if_success (with_reducible show Code.wp _ (Code.cond _ _ _) _ _ _)); go_step)
      refine wp_cond_true (by first | rfl | exact congrArg Value.bool (decide_eq_true (by omega))) ?_
      skip
      repeat ((fail_if_success (with_reducible show wpList _ _ _ (List.cons _ _) _ _)); (fail_if_success (with_reducible show Code.wp _ (Code.region _ _ true) _ _ _)); go_step)
      refine wl_step (st_val rfl (v_moveT (.inl rfl) rfl) ?_)
      simp only [Act.put, List.setIfInBounds_toArray, List.set_cons_zero, List.set_cons_succ]
      refine wl_step (st_val rfl (v_idx rfl rfl rfl Tryd.underlying57 (by kernel_rfl : _ = some Tryd.t56) rfl Tryd.underlying56 (by first | assumption | simp) (by first | assumption | omega)) ?_)
      simp only [Act.put, List.setIfInBounds_toArray, List.set_cons_zero, List.set_cons_succ]
      refine wl_step (st_val rfl (v_moveT (.inr rfl) rfl) ?_)
      simp only [Act.put, List.setIfInBounds_toArray, List.set_cons_zero, List.set_cons_succ]
      refine wl_step (st_val rfl (v_moveT (.inr rfl) rfl) ?_)
      simp only [Act.put, List.setIfInBounds_toArray, List.set_cons_zero, List.set_cons_succ]
      repeat ((fail_if_success (with_reducible show wpList _ _ _ (List.cons _ _) _ _)); (fail_if_success (with_reducible show Code.wp _ (Code.region _ _ true) _ _ _)); go_step)
      refine wl_step (st_val rfl (v_moveT (.inl rfl) rfl) ?_)
      simp only [Act.put, List.setIfInBounds_toArray, List.set_cons_zero, List.set_cons_succ]
      refine wl_step (st_val rfl (v_mul (m := 4) rfl rfl rfl (w_i64 (by omega))) ?_)
      simp only [Act.put, List.setIfInBounds_toArray, List.set_cons_zero, List.set_cons_succ]
      refine wl_step (st_val rfl (v_moveT (.inl rfl) rfl) ?_)
      simp only [Act.put, List.setIfInBounds_toArray, List.set_cons_zero, List.set_cons_succ]
      refine wl_step (st_val rfl (v_mul (m := 4) rfl rfl rfl (w_i64 (by omega))) ?_)
      simp only [Act.put, List.setIfInBounds_toArray, List.set_cons_zero, List.set_cons_succ]
      refine wl_step (st_val rfl (v_add (n := 4) rfl rfl rfl (w_i64 (by omega))) ?_)
      simp only [Act.put, List.setIfInBounds_toArray, List.set_cons_zero, List.set_cons_succ]
      refine wl_step (st_val rfl (v_sliceArr rfl rfl rfl rfl Tryd.underlying32 (by kernel_rfl) (by omega) (by omega) (by omega)) ?_)
      simp only [Act.put, List.setIfInBounds_toArray, List.set_cons_zero, List.set_cons_succ]
      rw [E4.out]
      refine wl_step (st_val rfl (v_moveT (.inl rfl) rfl) ?_)
      simp only [Act.put, List.setIfInBounds_toArray, List.set_cons_zero, List.set_cons_succ]
      refine wl_step (st_val rfl (v_convInt rfl rfl Tryd.underlying56 Tryd.underlying67 (w_u64 hx64)) ?_)
      simp only [Act.put, List.setIfInBounds_toArray, List.set_cons_zero, List.set_cons_succ]
      refine wl_step (st_calls rfl (run_call rfl Tryd.call24) (put_any hE0 (i := 0) rfl hX (by decide) hx64) ?_)
      rintro _ w1 ⟨rfl, hE1⟩
      refine ⟨_, rfl, ?_⟩
      clear hE0
      simp only [Act.put, List.setIfInBounds_toArray, List.set_cons_zero, List.set_cons_succ]
      rw [HP.out] at hE1
      simp only [List.set_cons_zero] at hE1
      repeat ((fail_if_success (with_reducible show wpList _ _ _ (List.cons _ _) _ _)); (fail_if_success (with_reducible show Code.wp _ (Code.region _ _ true) _ _ _)); go_step)
      refine wl_step (st_val rfl (v_add (n := 1) rfl rfl rfl (w_i64 (by omega))) ?_)
      simp only [Act.put, List.setIfInBounds_toArray, List.set_cons_zero, List.set_cons_succ]
      refine wl_step (st_val rfl (v_moveT (.inl rfl) rfl) ?_)
      simp only [Act.put, List.setIfInBounds_toArray, List.set_cons_zero, List.set_cons_succ]
      go_wp2
      go_roundw
      case rel => exact ⟨n + 1, by omega, rfl, hE1⟩
      case measure => simp [intOf]; omega
    · have hn' : n = 8 := by omega
      subst hn'
      have hfu : outAt 4 V 8 = sum256 M := by
        have := outAt_full 4 V
        rw [hl8] at this
        rw [this, HF.out]
      rw [hfu] at hE0
      have h32 := sum256_len M
      have h033 : (outAt 4 V 0).length = 32 := by rw [outAt_len (Nat.zero_le _), hl8]
      repeat ((fail_if_success (with_reducible show wpList _ _ _ (List.cons _ _) _ _)); (fail_if_success (with_reducible show Code.wp _ (Code.region _ _ true) _ _ _)); go_step)
      refine wl_step (st_val rfl (v_lss (n := 8) rfl rfl rfl) ?_)
      simp only [Act.put, List.setIfInBounds_toArray, List.set_cons_zero, List.set_cons_succ]
      repeat ((fail_if_success (with_reducible show wpList _ _ _ (List.cons _ _) _ _)); (fail_if_success (with_reducible show Code.wp _ (Code.region _ _ true) _ _ _)); (fail_if_success (with_reducible show Code.wp _ (Code.cond _ _ _) _ _ _)); go_step)
      refine wp_cond_false (by first | rfl | exact congrArg Value.bool (decide_eq_false (by omega))) ?_
      skip
      repeat ((fail_if_success (with_reducible show wpList _ _ _ (List.cons _ _) _ _)); (fail_if_success (with_reducible show Code.wp _ (Code.region _ _ true) _ _ _)); go_step)
      refine wl_step (st_val rfl (v_load (i := 0) hE0 rfl rfl rfl Tryd.underlying32 rfl (sz_of (n := 32) (by kernel_rfl) (by first | (simp only [ints_size, digs_length, List.length_replicate, List.length_cons, List.length_nil]; done) | (simp only [ints_size, digs_length, List.length_replicate, List.length_cons, List.length_nil, List.length_set, List.length_append]; omega) | rfl))) ?_)
      simp only [Act.put, List.setIfInBounds_toArray, List.set_cons_zero, List.set_cons_succ]
      refine wl_step (st_store (i := 1) hE0 rfl rfl rfl rfl rfl (sz_of (n := 32) (by kernel_rfl) (by first | (simp only [ints_size, digs_length, List.length_replicate, List.length_cons, List.length_nil]; done) | (simp only [ints_size, digs_length, List.length_replicate, List.length_cons, List.length_nil, List.length_set, List.length_append]; omega) | rfl)) (by first | (simp only [ints_size, digs_length, List.length_replicate, List.length_cons, List.length_nil]; done) | (simp only [ints_size, digs_length, List.length_replicate, List.length_cons, List.length_nil, List.length_set, List.length_append]; omega) | rfl) (by first | exact ints_one _ _ | decide | rfl | simp [*]) ?_)
      intro w1 hE1
      clear hE0
      simp only [List.set_cons_zero, List.set_cons_succ] at hE1
      simp only [Act.put, List.setIfInBounds_toArray, List.set_cons_zero, List.set_cons_succ]
      repeat ((fail_if_success (with_reducible show wpList _ _ _ (List.cons _ _) _ _)); (fail_if_success (with_reducible show Code.wp _ (Code.region _ _ true) _ _ _)); go_step)
      refine bodyPost_ret (results_cell_row rfl _ _ _ _ _ (0, 0) _ rfl (hE1.get (i := 1) rfl) Tryd.underlying32 rfl (sz_of (n := 32) (by kernel_rfl) (by first | (simp only [ints_size, digs_length, List.length_replicate, List.length_cons, List.length_nil]; done) | (simp only [ints_size, digs_length, List.length_replicate, List.length_cons, List.length_nil, List.length_set, List.length_append]; omega) | rfl))) rfl ⟨rfl, hE1.below⟩
end Go.Proofs.YtndnmghlgcamfaaDoor
